import Derived.Test.YtpnjbfjomebppaaGreatRunP
import Derived.Stop.RegionWithIn
open Go Go.S3 Go.Proofs Go.Proofs.Cells
set_option linter.unusedVariables false
set_option linter.unusedSimpArgs false
set_option maxRecDepth 100000
namespace Go.Proofs.YtpnjbfjomebppaaGreat
noncomputable section
theorem ZOa (k t:Int) (x:TY) (d:Int) (i o:Bool):ZGH (ZaE k t x d i o)=(t==8):=by
 unfold ZaE Zg4 ZGH;simp only[RT.val];cases h8:t==8
 ·cases t==9
  ·cases t==10
   ·cases rOn k<;>rfl
   ·rfl
  ·rfl
 ·rfl
variable {c:CORT}
theorem ZFw {l:LINT} {d:Int} (h:ZGH (Ze9 c l d)=true):l.2.2.1=false/\Zab c.2.2.2.2.1=8:=by
 unfold Ze9 at h;rw[ZOa] at h;cases hl:l.2.2.1
 ·rw[hl] at h;simp at h;exact⟨rfl,h⟩
 ·rw[hl] at h;simp at h
theorem ZDN {s0:TC} {ev:List EVTT} {cp:List TC} {it:List ITMT} (h:Sem s0 c ev cp it) (l:LINT) (d:Int) (cell:Cell) (moved:Bool) (hr:l.2.2.1=true) (x:TY):
  Sem s0 (Zs c l d) (evE ev c l d cell moved) (evC cp s0 c (Zs c l d) l d moved) (ZbZ it c x 10):=by
 have hck:Zs c l d=ZnK (ZT c.1) 0:=by unfold Zs;rw[hr];rfl
 have he:evE ev c l d cell moved=(bif ZdF c then ev++[ZeO (6,c.2.1,c.2.2.1,Zgc,false,false,false,false,0,0) c.1 l] else ev)++[ZeO (4,0,[],Zgc,false,false,false,false,0,0) c.1 l]:=by unfold evE;rw[hr];rfl
 have hc:evC cp s0 c (Zs c l d) l d moved=(bif ZdF c then cp++[ZlQ s0 cp] else cp)++[ZT c.1]:=by unfold evC;rw[hr,hck];rfl
 rw[he,hc,hck];have hcyi:cyI (ZbZ it c x 10)=cyI it:=Zmc (by decide) rfl;obtain⟨ev',cp',hev,hcp',hl',hcy⟩:∃ev' cp',(bif ZdF c then ev++[ZeO (6,c.2.1,c.2.2.1,Zgc,false,false,false,false,0,0) c.1 l] else ev)=ev'/\(bif ZdF c then cp++[ZlQ s0 cp] else cp)=cp'/\(cp'=Zrt s0 ev'/\Za5 s0 ev'=Za5 s0 ev)/\cyA s0 ev'=cyI it:=by
  cases hb:ZdF c
  ·refine⟨ev,cp,rfl,rfl,⟨h.hcp,rfl⟩,?_⟩;have hg:c.2.2.1=[]:=by
    unfold ZdF ZFl at hb;simp only[RT.val] at hb;have hx:(decide (iN (List.length c.2.2.1)>0)||c.2.1 !=0)=false:=by
     cases hq:(decide (iN (List.length c.2.2.1)>0)||c.2.1 !=0)
     ·rfl
     ·rw[hq] at hb;cases h2:decide (c.2.2.2.2.1>=2)<;>rw[h2] at hb<;>simp at hb
    rw[Yi] at hx;have:=hx.1;simp only[iN,Yaf] at this;exact List.length_eq_zero_iff.1 (by omega)
   have:=h.hit;rw[hg] at this;rw[this];show _=_++[];rw[YS]
  ·generalize hcut:ZeO (6,c.2.1,c.2.2.1,Zgc,false,false,false,false,0,0) c.1 l=e;have e1:e.1=6:=by rw[<-hcut,ZbS]
   have e2:e.2.1=c.2.1:=by rw[<-hcut,ZbS]
   have e3:e.2.2.1=c.2.2.1:=by rw[<-hcut,ZbS]
   have ha:Zc1 (Za5 s0 ev) e=Za5 s0 ev:=by unfold Zc1 ZtV;rw[e1];rfl
   refine⟨_,_,rfl,rfl,⟨?_,by simp only[Ya];rw[Zff,ha]⟩,?_⟩
   ·simp only[Ya];rw[h.hcp,Zd6,Znu,ha]
   ·simp only[Ya];rw[Zmd,h.hit];unfold Zfn cycE ZtV;rw[e1,e2,e3];rfl
 rw[hev,hcp'];generalize hrs:ZeO (4,0,[],Zgc,false,false,false,false,0,0) c.1 l=e;have e1:e.1=4:=by rw[<-hrs,ZbS]
 have hreg:=Zoa h.un;have hac:=ZqJ (Za5 s0 ev) c.2.1;have ha:Zc1 (Za5 s0 ev') e=ZT c.1:=by
  have:Zc1 (Za5 s0 ev') e=ZT (Za5 s0 ev'):=by unfold Zc1 ZtV;rw[e1];rfl
  rw[this,hl'.2];exact ZD0 (by rw[hreg.1,hac.1]) (by rw[hreg.2,hac.2])
 have hc0:Zfn (Za5 s0 ev') e=[]:=by unfold Zfn cycE ZtV;rw[e1];rfl
 have hl:Za5 s0 (ev'++[e])=ZT c.1:=by rw[Zff,ha]
 refine⟨by rw[hl'.1,Zd6,ha],by rw[hl];rfl,⟨(by decide:(1:Int)<=1),(by decide:(1:Int)<=9)⟩,λ_ b=> ?_,λe=> ?_,λ_=>⟨rfl,Zjp _ _⟩,?_,rfl,λe=> ?_,λe _=> ?_⟩
 ·have:(ZT c.1).2.2.2.2.1=false:=rfl;replace b:(ZT c.1).2.2.2.2.1=true:=b;rw[this] at b;simp at b
 ·replace e:(1:Int)=9:=e;omega
 ·rw[hcyi,Zmd,hc0,hcy,hl];show _=_++[]++[];rw[YS,YS]
 ·replace e:(1:Int)=2\/(1:Int)=3\/(1:Int)=7:=e;omega
 ·replace e:(4:Int)<=1:=e;omega
theorem ZDM (b:BRDT) (s0:TC) (st:STT) (i:INPT) (h:Sem s0 st.1.1 st.2.2.2.1 st.2.2.2.2 st.2.2.1):Sem s0 (ZbD b s0 st i).1.1 (ZbD b s0 st i).2.2.2.1 (ZbD b s0 st i).2.2.2.2 (ZbD b s0 st i).2.2.1:=by
 have hcore:(ZaX b st.1 i).1.1=Zs st.1.1 (Zb2 b (ZB b st.1 i) i) (busS b (ZB b st.1 i) i).2:=ZiA b st.1 i;show Sem s0 (ZaX b st.1 i).1.1 (evE st.2.2.2.1 st.1.1 (Zb2 b (ZB b st.1 i) i) (busS b (ZB b st.1 i) i).2 (ZaX b st.1 i).2.2.2.2.1 (Zhq b st.1 i)) (evC st.2.2.2.2 s0 st.1.1 (ZaX b st.1 i).1.1 (Zb2 b (ZB b st.1 i) i) (busS b (ZB b st.1 i) i).2 (Zhq b st.1 i))
  (ZbZ st.2.2.1 st.1.1 (ZP st.1.1 (nowS st.1 i) (busS b (ZB b st.1 i) i).2) (nowS st.1 i))
 rw[hcore];have hl2:(Zb2 b (ZB b st.1 i) i).2.2.1=i.2.2.1:=rfl;generalize hL:Zb2 b (ZB b st.1 i) i=l at hl2|-;generalize hD:(busS b (ZB b st.1 i) i).2=d;cases hr:i.2.2.1
 ·have hnow:nowS st.1 i=ZU st.1.1:=by unfold nowS;rw[hr];rfl
  rw[hnow];rw[hr] at hl2;have hcalm:=ZH2 h l d (ZaX b st.1 i).2.2.2.2.1 hl2;cases hm:Zhq b st.1 i
  ·exact hcalm
  ·--a byte is moved:in a hold state
   have h8:Zab st.1.1.2.2.2.2.1=8:=by unfold Zhq at hm;rw[Yc] at hm;have hp:=hm.1;unfold pinS at hp;rw[hL,hD,(ZhI b (ZB b st.1 i) i).1] at hp;exact (ZFw hp).2
   have hf:(finS st.1.1 l d).2=false:=by
    have h8':st.1.1.2.2.2.2.1=8:=by
     have:=h.nx;have h1:(decide (st.1.1.2.2.2.2.1<1)||decide (st.1.1.2.2.2.2.1>9))=false:=by simp;omega
     simp only[Zab,h1,Yb] at h8;exact h8
    unfold finS rdS;rw[hl2,h8'];rfl
   have e1:evE st.2.2.2.1 st.1.1 l d (ZaX b st.1 i).2.2.2.2.1 true=st.2.2.2.1++[(5,0,[],Zgc,false,false,false,false,(ZaX b st.1 i).2.2.2.2.1)]:=by unfold evE;rw[hl2,hf];rfl
   have e2:evE st.2.2.2.1 st.1.1 l d (ZaX b st.1 i).2.2.2.2.1 false=st.2.2.2.1:=by unfold evE;rw[hl2,hf];rfl
   have e3:evC st.2.2.2.2 s0 st.1.1 (Zs st.1.1 l d) l d true=st.2.2.2.2++[ZlQ s0 st.2.2.2.2]:=by unfold evC;rw[hl2,hf];rfl
   have e4:evC st.2.2.2.2 s0 st.1.1 (Zs st.1.1 l d) l d false=st.2.2.2.2:=by unfold evC;rw[hl2,hf];rfl
   rw[e1,e3];rw[e2,e4] at hcalm;exact ZH1 hcalm _ rfl rfl
 ·have hnow:nowS st.1 i=10:=by unfold nowS;rw[hr];rfl
  rw[hnow];exact ZDN h l d _ _ (by rw[hl2,hr]) _
theorem ZNW (b:BRDT) (hg:smG b.2.1=true) (hm:b.2.2.2.2.2.2.length<=100000) (hx:((wNew b).2 !=0)=false):wNew b=(newS b,0):=by
 have hv:(Zuc b).val=some (bif Zdk b !=0 then (Zt7,Zdk b) else ((newS b),0)):=by unfold Zuc;have hc:=smCb (l:=b.2.2.2.2.2.2) (by omega);simp only[RT.val,ZqQ b hg hc,hc,Ya];cases Zdk b !=0<;>rfl
 have hx':(Zdk b !=0)=false:=by
  cases hq:Zdk b !=0
  ·rfl
  ·exfalso;simp only[wNew,hv,getO,hq,Ya] at hx;simp at hx
 simp only[wNew,hv,getO,hx',Yb]
theorem ZJa (b:BRDT) (hw:wNew b=(newS b,0)):Zah b=ZGt b/\Sem (Zah b) (ZbG b).1.1 (ZbG b).2.2.2.1 (ZbG b).2.2.2.2 (ZbG b).2.2.1:=by
 have hs:Zah b=ZGt b:=by unfold Zah;rw[hw];rfl
 refine⟨hs,?_⟩;have e:(ZbG b).1.1=(Zah b,0,[],(1,0,0,4),1,false):=by unfold ZbG Zah;rw[hw];rfl
 rw[e];refine⟨rfl,rfl,⟨(by decide:(1:Int)<=1),(by decide:(1:Int)<=9)⟩,λ_ q=> ?_,λe=> ?_,λ_=>⟨?_,Zjp _ _⟩,rfl,rfl,λe=> ?_,λe _=> ?_⟩
 ·have:(Zah b).2.2.2.2.1=false:=by rw[hs];rfl
  replace q:(Zah b).2.2.2.2.1=true:=q;rw[this] at q;simp at q
 ·replace e:(1:Int)=9:=e;omega
 ·have:Zah b=ZGt b:=hs;show ((1,0,0,4):TY)=(Zg (Zah b) 0 []).1;rw[this];rfl
 ·replace e:(1:Int)=2\/(1:Int)=3\/(1:Int)=7:=e;omega
 ·replace e:(4:Int)<=1:=e;omega
end
end Go.Proofs.YtpnjbfjomebppaaGreat
open Go.Proofs.Tryz (prog)
open Go.IntKind (u8 u16 i64)
open Go Go.S3 Go.Proofs
namespace Go.Proofs.YtpnjbfjomebppaaGreat
noncomputable section
abbrev ZKV:List Sh:=[Sh.one (R.int i64),Sh.one (R.int i64),Sh.one (R.int i64)]
abbrev ZKW:Rs:=Rs.one (Sh.one (R.int i64))
def ZtH (n:Int) (low:Int) (high:Int):RT (Int):=
 .Lf (if (if high<n then high else n)>low then if high<n then high else n else low)
def gLim (n:Int) (low:Int) (high:Int):Int:=(ZtH n low high).val
def ZOc:En:=Zi ZKV ZKW (λ_=>none) (λa=>gLim a.1 a.2.1 a.2.2)
theorem ZML:Zd prog 127 ZOc:=
 pureQ 127 [] [] ZKV ZKW trivial Tryz.func127 Tryz.call127 trivial (t:=λa=>ZtH a.1 a.2.1 a.2.2)
abbrev ZKT:List Sh:=[Sh.agg Z0]
abbrev ZKU:Rs:=Rs.tup [Sh.one (R.int i64),Sh.one (R.int i64)]
def ZtG (x:ITMT):RT (Int×Int):=
 .br (x.1==2) (.Lf ((8,gLim x.2.2.2.1 0 65536))) (.br (x.1==3) (.Lf ((9,gLim x.2.2.2.1 0 65536))) (.br (x.1==4) (.Lf ((10,gLim x.2.2.2.1 0 65536))) (.Lf ((0,0)))))
def gRep (x:ITMT):Int×Int:=(ZtG x).val
def ZMK:En:=Zi ZKT ZKU (λ_=>none) (λa=>gRep a)
theorem ZGO:Zd prog 73 ZMK:=
 pureQ 1359 [(127,ZOc)] [] ZKT ZKU ⟨ZML,Tv⟩ Tryz.func73 Tryz.call73 trivial (t:=λa=>ZtG a)
abbrev ZGP:List Sh:=[Sh.agg Z0,Sh.one R.bool]
abbrev ZGR:Rs:=Rs.one (Sh.one R.bool)
def ZGQ (x:ITMT) (f:Bool):RT (Bool):=
 let p1:=(decide (x.2.2.2.1>x.2.1.2.2.2))::(decide (x.2.2.2.1<1))::(decide (x.2.1.2.2.2>6))::(decide (x.2.1.2.2.2<3))::[]
 .br (orR p1 (!f&&x.2.2.2.1 !=x.2.1.2.2.2)) (.Lf (false)) (.br (decide (x.2.2.1<0)||decide (x.2.2.2.1<2)&&x.2.2.1 !=0) (.Lf (false)) (.Lf (x.2.2.1==0||pAcc x.2.1.1)))
def ZCg (x:ITMT) (f:Bool):Bool:=(ZGQ x f).val
def ZGS:En:=Zi ZGP ZGR (λ_=>none) (λa=>ZCg a.1 a.2)
theorem ZzW:Zd prog 72 ZGS:=
 pureQ 137438954047 [(126,ZNR)] [] ZGP ZGR ⟨ZMj,Tv⟩ Tryz.func72 Tryz.call72 trivial (t:=λa=>ZGQ a.1 a.2)
abbrev ZtE:List Sh:=[Sh.one (R.sl Z0)]
abbrev ZlY:Rs:=Rs.tup [Sh.one (R.int i64),Sh.one (R.int i64),Sh.one (R.int i64),Sh.one (R.int i64),Sh.one (R.int i64)]
def ZCf:LS:={n:=52,Sl:=[(2,.code (Sh.one (R.int i64))),(3,.code (Sh.one (R.int i64))),(4,.code (Sh.one (R.int i64))),(5,.code (Sh.one (R.int i64))),(6,.code (Sh.one (R.int i64))),(10,.code (Sh.one (R.sl Z0))),(11,.code (Sh.one (R.int i64))),(12,.code (Sh.one (R.int i64)))],Bx:=[],Sg:=[]}
def Zcu (a:QT10):RT (Option (Go1 (QT10))):=
 let x1:ITMT:=R.get Z0 a.2.2.2.2.2.1 a.2.2.2.2.2.2.2.1
 let x2:=x1.1
 let x3:=x1.2.2
 let x4:=x3.2.1
 let x5:Int:=if 0>x4 then 0 else x4
 let x6:=x3.1
 let x7:List ITMT×Int×Int×PUnit:=(a.2.2.2.2.2.1,a.2.2.2.2.2.2.1,i64.wrap (a.2.2.2.2.2.2.2.1+1),PUnit.unit)
 let x8:Int×List ITMT×Int×Int×PUnit:=(a.2.2.2.2.1,x7)
 let x9:Int×Int×List ITMT×Int×Int×PUnit:=(a.2.2.2.1,x8)
 .br (decide (a.2.2.2.2.2.2.2.1<a.2.2.2.2.2.2.1)) (.br (Ze a.2.2.2.2.2.2.2.1 (List.length a.2.2.2.2.2.1)) (.br (x2==1) (.Lf (some (Go1.cont (i64.wrap (a.1+x5),i64.wrap (a.2.1+if 0>x6 then 0 else x6),a.2.2.1,x9)))) (.br (x2==2) (.Lf (some (Go1.cont (a.1,a.2.1,i64.wrap (a.2.2.1+x5),x9)))) (.br (x2==3) (.Lf (some (Go1.cont (a.1,a.2.1,a.2.2.1,i64.wrap (a.2.2.2.1+x5),x8)))) (.Lf (some (Go1.cont (a.1,a.2.1,a.2.2.1,a.2.2.2.1,bif x2==4 then i64.wrap (a.2.2.2.2.1+x5) else a.2.2.2.2.1,x7))))))) (.Lf none)) (.Lf (some (Go1.brk (a.1,a.2.1,a.2.2.1,a.2.2.2.1,a.2.2.2.2.1,a.2.2.2.2.2.1,a.2.2.2.2.2.2.1,a.2.2.2.2.2.2.2.1,PUnit.unit))))
def ZnA:Ora:=ZcQ false ZCf Zcu (λa=>1000000000000)
theorem ZtF:Zb6 (envX prog [] [] 2269892314111 8) (.block 0 (.loop (ZaU Tryz.f17.body 0))) ZnA:=
 loopP trivial
def ZeC (l:List ITMT):RT (Option (QT24)):=
 let x1:QT10:=(0,0,0,0,0,l,iN (List.length l),0,())
 let x2:=runF false Zcu (λa=>1000000000000) x1
 let x3:QT10:=(getO (false,x1) x2).2
 let x4:=x3.2
 let x5:=x4.2
 let x6:=x5.2
 .br (okB x2) (.Lf (some ((x3.1,x4.1,x5.1,x6.1,x6.2.1)))) (.Lf none)
def Zav (l:List ITMT):QT24:=getO ZlY.Df (ZeC l).val
def Zap (l:List ITMT):Bool:=okB (ZeC l).val
def Zqs:En:=Zi ZtE ZlY (λa=>some (Zap a)) (λa=>Zav a)
theorem Znz:Zd prog 17 Zqs:=
 pureP 2269892314111 [] [(0,ZnA)] ZtE ZlY trivial Tryz.func17 Tryz.call17 ⟨ZtF,Tv⟩ (t:=λa=>ZeC a)
abbrev ZzV:List Sh:=[Sh.one (R.int i64),Sh.one (R.sl Z0)]
abbrev Zqr:Rs:=Rs.one (Sh.one R.bool)
def ZGN:LS:={n:=96,Sl:=[(1,.code (Sh.one (R.sl Z0))),(4,.code (Sh.one R.bool)),(10,.code (Sh.one (R.sl Z0))),(11,.code (Sh.one (R.int i64))),(12,.code (Sh.one (R.int i64)))],Bx:=[],Sg:=[]}
def ZbP (a:List ITMT×Bool×List ITMT×Int×Int×PUnit):RT (Option (Go1 (List ITMT×Bool×List ITMT×Int×Int×PUnit))):=
 let x1:=i64.wrap (a.2.2.2.2.1+1)==iN (List.length a.1)
 let x2:=x1||Ze (i64.wrap (a.2.2.2.2.1+1)) (List.length a.1)
 let x3:= !x2
 let x4:ITMT:=R.get Z0 a.2.2.1 a.2.2.2.2.1
 let x5:=x4.1
 let x6:=x5==1
 let x7:=x6&& !ZCg x4 (x1||(R.get Z0 a.1 (i64.wrap (a.2.2.2.2.1+1))).1==4)
 let x8:=x4.2.2
 let x9:=x8.2
 let x10:=(gRep x4).1==0||(decide (x9.1<1)||x8.1 !=0)
 let p1:=x10::x6::x7::x3::(!Ze a.2.2.2.2.1 (List.length a.2.2.1))::[]
 let x11:=Ze (i64.wrap (a.2.2.2.2.1-1)) (List.length a.1)
 let x12:= !x11
 let x13:ITMT:=R.get Z0 a.1 (i64.wrap (a.2.2.2.2.1-1))
 let x14:=x13.1==x5
 let x15:= !x14
 let x16:=x13.2.2.2.2
 let x17:=x9.2
 let x18:=x16.1==x17.1
 let p2:=(!x18)::x12::x15::x12::(!decide (a.2.2.2.2.1>0))::[]
 let x19:=orR p2 x11
 let x20:= !x19
 let p3:=x20::p1
 let x21:= !decide (a.2.2.2.2.1>0)||(x12||(x15||x11))
 let p4:=(!decide (a.2.2.2.2.1>0))::(!x21)::p3
 let x22:List ITMT×Int×Int×PUnit:=(a.2.2.1,a.2.2.2.1,a.2.2.2.2.1,PUnit.unit)
 .br (decide (a.2.2.2.2.1<a.2.2.2.1)) (.br (orR p4 x11) (.br (orR p3 x21) (.br (orR p1 x19) (.br (!Ze a.2.2.2.2.1 (List.length a.2.2.1)||x2) (.br (Ze a.2.2.2.2.1 (List.length a.2.2.1)) (.br (x7) (.Lf (some (Go1.ret (a.1,false,x22)))) (.br (x6) (.Lf (some (Go1.cont (a.1,a.2.1,a.2.2.1,a.2.2.2.1,i64.wrap (a.2.2.2.2.1+1),PUnit.unit)))) (.br (x10) (.Lf (some (Go1.ret (a.1,false,x22)))) (.br (decide (a.2.2.2.2.1>0)&&(x14&&(x18&&x16.2==x17.2))) (.Lf (some (Go1.ret (a.1,false,x22)))) (.Lf (some (Go1.cont (a.1,a.2.1,a.2.2.1,a.2.2.2.1,i64.wrap (a.2.2.2.2.1+1),PUnit.unit)))))))) (.Lf none)) (.Lf none)) (.Lf none)) (.Lf none)) (.Lf none)) (.Lf (some (Go1.brk (a.1,a.2.1,x22))))
def ZtD:Ora:=ZcQ true ZGN ZbP (λa=>1000000000000)
theorem ZwX:Zb6 (envX prog [(72,ZGS),(73,ZMK)] [] 1023 8) (.block 0 (.loop (ZaU Tryz.f19.body 0))) ZtD:=
 loopP ⟨ZzW,ZGO,Tv⟩
def ZlX (k:Int) (l:List ITMT):RT (Option (Bool)):=
 let x1:=runF true ZbP (λa=>1000000000000) (l,false,l,iN (List.length l),0,())
 let x2:=getO (false,l,false,l,iN (List.length l),0,()) x1
 .br (okB x1) (.br x2.1 (.Lf (some x2.2.2.1)) (.Lf (some (true)))) (.Lf none)
def Zny (k:Int) (l:List ITMT):Bool:=getO Zqr.Df (ZlX k l).val
def Zgw (k:Int) (l:List ITMT):Bool:=okB (ZlX k l).val
def ZwY:En:=Zi ZzV Zqr (λa=>some (Zgw a.1 a.2)) (λa=>Zny a.1 a.2)
theorem ZtC:Zd prog 19 ZwY:=
 pureP 1023 [(72,ZGS),(73,ZMK)] [(0,ZtD)] ZzV Zqr ⟨ZzW,ZGO,Tv⟩ Tryz.func19 Tryz.call19 ⟨ZwX,Tv⟩ (t:=λa=>ZlX a.1 a.2)
end
end Go.Proofs.YtpnjbfjomebppaaGreat
namespace Go.Proofs.YtpnjbfjomebppaaGreat
open Go Go.S3 Go.Proofs Go.RowKit Go.Shelf
attribute [local go_sem] Oper.semAt_some
noncomputable section
set_option maxRecDepth 100000 in
set_option maxHeartbeats 2000000 in
theorem ZKO (F:Fence) (n:Nat) (h:F.fn 127) (hro:F.round=none) (a lo hi:Int) (w:World):
  CallsIn F n prog 127 #[.int .i64 a,.int .i64 lo,.int .i64 hi] w λe w'=>e=.returned (.int .i64 (gLim a lo hi))/\w'=w:=by
 refine callsIn_of_wp Tryz.func127 rfl h ?_ hro;simp only[Tryz.ntmps127,Yac,List.length_cons,List.length_nil,Nat.reduceAdd,Nat.reduceSub,Yar,Array.replicate_zero,Yay,Yas,List.nil_append,List.cons_append];gi_wp2
 all_goals go_ret
 all_goals refine⟨?_,rfl⟩
 all_goals simp[*,gLim,ZtH,RT.val]
 all_goals omega
abbrev ZbY (x:ITMT):Array Value:= #[.int .i64 x.1,.int .i64 x.2.1.1,.int .u16 x.2.1.2.1,.int .u8 x.2.1.2.2.1,.int .i64 x.2.1.2.2.2,.int .i64 x.2.2.1,.int .i64 x.2.2.2.1,.bool x.2.2.2.2.1,.bool x.2.2.2.2.2]
set_option maxRecDepth 100000 in
set_option maxHeartbeats 4000000 in
theorem ZNi (F:Fence) (n:Nat) (h:F.fn 73) (hl:F.fn 127) (hro:F.round=none) (hn:1<=n) (x:ITMT) (w:World):
  CallsIn F n prog 73 #[.agg (ZbY x)] w λe w'=>e=.returned (.tuple #[.int .i64 (gRep x).1,.int .i64 (gRep x).2])/\w'=w.alloc (.cells (ZbY x) 70):=by
 refine callsIn_of_wp Tryz.func73 rfl h ?_ hro;simp only[Tryz.ntmps73,Yac,List.length_cons,List.length_nil,Nat.reduceAdd,Nat.reduceSub,Yar,Array.replicate_zero,Yay,Yas,List.nil_append,List.cons_append]
 gi_wp2_with (gi_at_call 127;refine (ZKO F (n-1) hl hro _ _ _ _).mono ?_;rintro e w' ⟨rfl,rfl⟩)
 all_goals go_ret2
 all_goals refine⟨?_,rfl⟩
 all_goals simp[*,gRep,ZtG,RT.val]
def stsC (w m:Nat):List Int:=(List.range m).flatMap λk=>((k+1:Nat):Int)::bif k==1 then List.replicate w 7 else []
theorem Zd0 (w m:Nat):stsC w (m+1)=stsC w m++((m+1:Nat):Int)::bif m==1 then List.replicate w 7 else []:=by simp[stsC,List.range_succ]
def stsL (x:ITMT):List Int:=bif x.1 !=1 then List.replicate (gRep x).2.toNat (gRep x).1 else stsC (min x.2.2.1 65536).toNat (gLim x.2.2.2.1 1 (gLim x.2.1.2.2.2 3 6)).toNat
theorem ZDE (w:Nat):∀(m k:Nat),k<=m->(stsC w k).length<=(stsC w m).length
 |0,k,h=>by rw[show k=0 by omega];exact Yd _
 |m+1,k,h=>by
  by_cases e:k=m+1
  ·rw[e];exact Yd _
  ·have:=ZDE w m k (by omega);rw[Zd0,Yh];omega
def ZhL (W:World) (B:Nat) (x:ITMT):Prop:=W.heap[B]? =some (.cells (ZbY x) 70)
theorem ZhL.cell {W:World} {B:Nat} {x:ITMT} (h:ZhL W B x) (i:Nat) (hi:i<9):W.cell? ⟨B,i,none⟩=some ((ZbY x).getD i undef):=by
 unfold ZhL at h;simp only[World.cell?,h]
 match i,hi with
 |0,_=>rfl
 |1,_=>rfl
 |2,_=>rfl
 |3,_=>rfl
 |4,_=>rfl
 |5,_=>rfl
 |6,_=>rfl
 |7,_=>rfl
 |8,_=>rfl
 |i+9,hi=>omega
def KpB (B:Nat) (W W':World):Prop:=W'.heap[B]? =W.heap[B]?
set_option maxRecDepth 100000 in
set_option maxHeartbeats 8000000 in
theorem ZLt (F:Fence) (n:Nat) (h:F.fn 145) (hr:F.fn 73) (hl:F.fn 127) (hro:F.round=none) (hn:2<=n) (y B N:Nat) (x:ITMT) (J Jx:List Int->World->Prop) (W:World) (hJo:AbidesFrom W.heap.size J)
  (hN:(stsL x).length<=N)
  (hY:∀pre t W1,0<=t->t<=10->J pre W1->pre.length<N->YieldAt F (n-1) prog y #[.int .i64 t] W1 λe W'=>
   (e=.returned (.bool true)/\J (pre++[t]) W'/\KpB B W1 W')\/(e=.returned (.bool false)/\Jx (pre++[t]) W'))
  (hB:ZhL W B x) (h0:J [] W):
  CallsIn F n prog 145 #[.func (.yield y) #[] #[],.pointer (some ⟨B,0,none⟩)] W λe W'=>(∃v,e=.returned v)/\
   ((∃ys,ys=stsL x/\J ys W')\/(∃pre,True/\Jx pre W')):=by
 refine callsIn_of_wp Tryz.func145 rfl h ?_ hro;simp only[Tryz.ntmps145,Yac,List.length_cons,List.length_nil,Nat.reduceAdd,Nat.reduceSub,Yar,Array.replicate_zero,Yay,Yas,List.nil_append,List.cons_append];obtain⟨L,hL⟩:∃L,L=stsL x:=⟨_,rfl⟩;rw[<-hL] at hN|-;have c0:=hB.cell 0 (by omega);have c1:=hB.cell 1 (by omega);have c2:=hB.cell 2 (by omega);have c3:=hB.cell 3 (by omega);have c4:=hB.cell 4 (by omega);have c5:=hB.cell 5 (by omega);have c6:=hB.cell 6 (by omega);have c7:=hB.cell 7 (by omega);have c8:=hB.cell 8 (by omega);simp[ZbY,Array.getD] at c0 c1 c2 c3 c4 c5 c6 c7 c8;have hn1:1<=n:=by omega
 gi_wp2_with (gi_at_call 73;refine (ZNi F (n-1) hr hl hro (by omega) x _).mono ?_;rintro e w' ⟨rfl,rfl⟩)
 ·have hx:(x.1 !=1)=true:=by assumption
  have eL:stsL x=List.replicate (gRep x).2.toNat (gRep x).1:=by unfold stsL;rw[hx];rfl
  rw[eL] at hL;rw[hL,List.length_replicate] at hN;have hJ1:J [] (W.alloc (.cells (ZbY x) 70)):=hJo _ _ _ none h0 (World.grownBy_alloc W _ none) (λr e=>by cases e);clear hJo h0 hB c0 c1 c2 c3 c4 c5 c6 c7 c8 eL;have htm:0<=(gRep x).2/\(gRep x).2<=65536:=by unfold gRep ZtG;simp only[gLim,ZtH,RT.val];cases x.1==2<;>cases x.1==3<;>cases x.1==4<;>simp[RT.val]<;>omega
  obtain⟨ht0,ht1⟩:=htm;have hst:0<=(gRep x).1/\(gRep x).1<=10:=by unfold gRep ZtG;cases x.1==2<;>cases x.1==3<;>cases x.1==4<;>simp[RT.val]
  generalize (gRep x).1=st at*;generalize (gRep x).2=tm at*;subst hL;gi_wp2
  gi_loopw [17] (λi wr=>∃k:Nat,k<=tm.toNat/\i=.int .i64 (k:Int)/\J (List.replicate k st) wr) (λi _=>tm.toNat-(intOf i).toNat)
  case atStart=>exact⟨0,Yr _,rfl,hJ1⟩
  case round=>
   obtain⟨k,hk,rfl,hJs⟩:=hrel;by_cases hlt:(k:Int)<tm
   ·obtain⟨fn,tmps,assign,body,hy,hR⟩:=hY _ st wr hst.1 hst.2 hJs (by rw[List.length_replicate];omega);have hb:(k:Int)+1<=65536:=by omega
    have hb0:(0:Int)<=k:=by omega
    gi_wp2
    ·refine hR.mono ?_;rintro e W3 (⟨rfl,hJ3,hk3⟩|⟨rfl,hJx3⟩)
     ·gi_wp2
      go_roundw
      case rel=>exact⟨k+1,by omega,rfl,by rw[List.replicate_succ'];exact hJ3⟩
      case measure=>simp[intOf];omega
     ·gi_wp2
      refine bodyPost_ret (results_none rfl _ _ _) rfl ?_;exact⟨⟨_,rfl⟩,.inr ⟨_,trivial,hJx3⟩⟩
   ·gi_wp2
    refine bodyPost_ret (results_none rfl _ _ _) rfl ?_;have e5:tm.toNat=k:=by omega
    rw[<-e5] at hJs;exact⟨⟨_,rfl⟩,.inl hJs⟩
 ·refine wpIn_mono (Q:=λe a' w'=>e=.normal/\a'={tmps:= #[.func (.yield y) #[] #[],.pointer (some ⟨B,0,none⟩),undef,undef,undef,.int .i64 (gLim x.2.2.2.1 1 (gLim x.2.1.2.2.2 3 6)),undef,undef,.pointer (some ⟨B,0,none⟩),.int .i64 x.1,.bool false,undef,undef,undef,undef,undef,undef,undef,undef,undef,undef,undef,undef,undef,.pointer (some ⟨B,6,none⟩),.int .i64 x.2.2.2.1,.pointer (some ⟨B,1,none⟩),.pointer (some ⟨B,4,none⟩),.int .i64 x.2.1.2.2.2,.int .i64 (gLim x.2.1.2.2.2 3 6),.int .i64 (gLim x.2.2.2.1 1 (gLim x.2.1.2.2.2 3 6)),undef,undef,undef,undef,undef,undef,undef,undef,undef,undef,undef,undef,undef,undef,undef,undef,undef,undef,undef,undef,undef,undef,undef],defers:=[]}/\w'=W.drew) ?reg ?_
  case reg=>
   gi_region_with (gi_at_call 127;refine (ZKO F (n-1) hl hro _ _ _ _).mono ?_;rintro e w' ⟨rfl,rfl⟩)
   all_goals exact⟨rfl,rfl,rfl⟩
  rintro e a' w' ⟨rfl,rfl,rfl⟩;have hx:(x.1 !=1)=false:=by assumption
  have eL:stsL x=stsC (min x.2.2.1 65536).toNat (gLim x.2.2.2.1 1 (gLim x.2.1.2.2.2 3 6)).toNat:=by unfold stsL;rw[hx];rfl
  have hm1:1<=gLim x.2.2.2.1 1 (gLim x.2.1.2.2.2 3 6)/\gLim x.2.2.2.1 1 (gLim x.2.1.2.2.2 3 6)<=6:=by simp only[gLim,ZtH,RT.val];omega
  dsimp only;rw[eL] at hL;have hJ1:J [] W.drew:=hJo _ _ _ none h0 ⟨rfl,rfl,rfl,Yd _,λ_ _ _=>rfl⟩ (λr e=>by cases e);have hB1:ZhL W.drew B x:=hB;clear hJo h0 hB c0 c1 c2 c3 c4 c5 c6 c7 c8 eL;generalize gLim x.2.2.2.1 1 (gLim x.2.1.2.2.2 3 6)=g at*;obtain⟨m,rfl⟩:∃m:Nat,g=(m:Int):=⟨g.toNat,by omega⟩;generalize W.drew=W0 at*;rw[Int.toNat_natCast] at hL;generalize hwn:(min x.2.2.1 65536).toNat=wn at*;subst hL;gi_wp2
  gi_loopw [6] (λi wr=>∃k:Nat,k<=m/\i=.int .i64 ((k:Int)+1)/\J (stsC wn k) wr/\ZhL wr B x) (λi _=>m+1-(intOf i).toNat)
  case atStart=>exact⟨0,Yr _,rfl,by simpa [stsC] using hJ1,hB1⟩
  case round=>
   obtain⟨k,hk,rfl,hJs,hBr⟩:=hrel;by_cases hlt:k<m
   ·have c5:=hBr.cell 5 (by omega);simp[ZbY,Array.getD] at c5;have hlen:∀j:Nat,j<=(bif k==1 then wn else 0)->(stsC wn k++((k+1:Nat):Int)::List.replicate j 7).length<=(stsC wn m).length:=by intro j hj;refine Yy ?_ (ZDE wn m (k+1) hlt);rw[Zd0];simp only[Yh,List.length_cons,List.length_replicate];cases hk1:k==1<;>rw[hk1] at hj<;>simp at hj|- <;>omega
    obtain⟨fn,tmps,assign,body,hy,hR⟩:=hY _ ((k:Int)+1) wr (by omega) (by omega) hJs (by have:=hlen 0 (Yr _);simp at this;omega);have hb:(k:Int)+1<=6:=by omega
    have hb0:(0:Int)<=k:=by omega
    gi_wp2
    refine hR.mono ?_;rintro e W3 (⟨rfl,hJ3,hk3⟩|⟨rfl,hJx3⟩)
    ·gi_wp2
     gi_loopw [7] (λi wr=>∃j:Nat,j<=(bif k==1 then wn else 0)/\i=.int .i64 (j:Int)/\J (stsC wn k++((k+1:Nat):Int)::List.replicate j 7) wr/\ZhL wr B x) (λi _=>wn+1-(intOf i).toNat)
     case atStart=>exact⟨0,Yr _,rfl,by simpa using hJ3,hk3.trans hBr⟩
     case round=>
      obtain⟨j,hj,rfl,hJs,hBr⟩:=hrel;have c5:=hBr.cell 5 (by omega);simp[ZbY,Array.getD] at c5;have hwn0:wn<=65536:=by omega
      have hj65:(j:Int)<=65536:=by cases hq:k==1<;>rw[hq] at hj<;>simp at hj<;>omega
      have hj0:(0:Int)<=j:=by omega
      by_cases hc:k=1/\j<wn
      ·obtain⟨fn,tmps,assign,body,hy,hR⟩:=hY _ 7 wr (by omega) (by omega) hJs (by have:=hlen (j+1) (by simp[hc.1];omega);simp at this|-;omega);have hnext:∀W,J ((stsC wn k++((k+1:Nat):Int)::List.replicate j 7)++[7]) W->J (stsC wn k++((k+1:Nat):Int)::List.replicate (j+1) 7) W:=by intro W h;rw[List.replicate_succ'];simpa using h
       have hj1:j+1<=(bif k==1 then wn else 0):=by simp[hc.1];omega
       gi_wp2
       all_goals first
        |(exfalso;omega)
        |skip
       all_goals
        refine hR.mono ?_;rintro e W5 (⟨rfl,hJ5,hk5⟩|⟨rfl,hJx5⟩)
       all_goals gi_wp2
       all_goals first
        |(refine bodyPost_ret (results_none rfl _ _ _) rfl ?_
          exact⟨⟨_,rfl⟩,.inr ⟨_,trivial,hJx5⟩⟩)
        |(go_roundw
          case rel=>
           simp only[show (k:Int)+1=2 by omega];exact⟨_,_,_,_,_,_,_,_,_,_,_,_,_,_,_,⟨j+1,hj1,rfl,hnext _ hJ5,hk5.trans hBr⟩,rfl⟩
          case measure=>simp[intOf];omega)
      ·gi_wp2
       all_goals first
        |(exfalso;omega)
        |skip
       all_goals
        have hjj:j=bif k==1 then wn else 0:=by
         by_cases hk1:k=1
         ·have:¬j<wn:=λh=>hc ⟨hk1,h⟩
          subst hk1;simp at hj|-;omega
         ·have:(k==1)=false:=by simpa using hk1
          rw[this] at hj|-;exact Nat.le_zero.1 hj
        have hfin:J (stsC wn (k+1)) wr:=by rw[Zd0];rw[hjj] at hJs;cases hk1:k==1<;>rw[hk1] at hJs<;>simpa using hJs
        refine⟨⟨k+1,by omega,by first|rfl|(congr 1;omega),hfin,hBr⟩,?_⟩;simp[intOf];omega
    ·gi_wp2
     refine bodyPost_ret (results_none rfl _ _ _) rfl ?_;exact⟨⟨_,rfl⟩,.inr ⟨_,trivial,hJx3⟩⟩
   ·have hb:(k:Int)<=6:=by omega
    have hb0:(0:Int)<=k:=by omega
    gi_wp2
    refine bodyPost_end (results_none rfl _ _ _) rfl ?_;exact⟨⟨_,rfl⟩,.inl ⟨_,rfl,by rw[show m=k by omega];exact hJs⟩⟩
set_option maxRecDepth 100000 in
set_option maxHeartbeats 2000000 in
theorem ZNa (F:Fence) (n:Nat) (h:F.fn 78) (hro:F.round=none) (x:ITMT) (w:World):
  CallsIn F n prog 78 #[.agg (ZbY x)] w λe w'=>e=.returned (.func (.func 145) #[] #[.pointer (some ⟨w.heap.size,0,none⟩)])/\w'=w.alloc (.cells (ZbY x) 70):=by
 refine callsIn_of_wp Tryz.func78 rfl h ?_ hro;simp only[Tryz.ntmps78,Yac,List.length_cons,List.length_nil,Nat.reduceAdd,Nat.reduceSub,Yar,Array.replicate_zero,Yay,Yas,List.nil_append,List.cons_append];gi_wp2
 go_ret
 exact⟨rfl,rfl⟩
abbrev StT:={t:Int//0<=t/\t<=10}
abbrev stEnc (t:StT):Array Value:= #[.int .i64 t.1]
theorem ZDB (F:Fence) (n:Nat) (h:F.fn 145) (hr:F.fn 73) (hl:F.fn 127) (hro:F.round=none) (hn:2<=n) (B:Nat) (x:ITMT) (w:World) (hBs:B<w.heap.size) (hB:ZhL w B x):
  SeqStopsK F n prog 145 #[.pointer (some ⟨B,0,none⟩)] stEnc (KpB B) (λys=>ys.map (·.1)=stsL x) (λ_=>True) (stsL x).length w:=λy J Jx W hW hJ _ hY h0=>by
 refine (ZLt F n h hr hl hro hn y B (stsL x).length x (λl W=>∃l':List StT,l'.map (·.1)=l/\J l' W) (λl W=>∃l':List StT,Jx l' W) W ?_ (Yd _) ?_ ?_ ⟨[],rfl,h0⟩).mono ?_
 ·rintro l A C row ⟨l',e,hl'⟩ hg hr';exact⟨l',e,hJ l' A C row hl' hg hr'⟩
 ·rintro pre t W1 t0 t1 ⟨l',e,hl'⟩ hlen;have hlen':l'.length<(stsL x).length:=by rw[<-e,List.length_map] at hlen;exact hlen
  obtain⟨fn,tmps,assign,body,hy,hR⟩:=hY l' ⟨t,t0,t1⟩ W1 hl' hlen';refine⟨fn,tmps,assign,body,hy,hR.mono ?_⟩;rintro e' W' (⟨e1,e2,e3⟩|⟨e1,e2⟩)
  ·exact .inl ⟨e1,⟨l'++[⟨t,t0,t1⟩],by simp[e],e2⟩,e3⟩
  ·exact .inr ⟨e1,_,e2⟩
 ·exact (hW.block B hBs).trans hB
 ·rintro e W' ⟨hv,(⟨ys,e1,l',e2,e3⟩|⟨pre,_,l',e3⟩)⟩
  ·exact⟨hv,.inl ⟨l',e2.trans e1,e3⟩⟩
  ·exact⟨hv,.inr ⟨l',trivial,e3⟩⟩
end
end Go.Proofs.YtpnjbfjomebppaaGreat
