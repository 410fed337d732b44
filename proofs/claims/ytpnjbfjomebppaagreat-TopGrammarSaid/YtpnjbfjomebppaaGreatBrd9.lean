import Derived.Test.YtpnjbfjomebppaaGreatSysB
open Go.IntKind (u8 u16 i64)
open Go Go.S3 Go.Proofs Go.Proofs.Cells
set_option linter.unusedVariables false
set_option linter.unusedSimpArgs false
set_option maxRecDepth 100000
namespace Go.Proofs.YtpnjbfjomebppaaGreat
noncomputable section
def Zbk {α:Type} (l:List α) (f:α->α):List α:=match l.getLast? with
 |some y=>l.dropLast++[f y]
 |none=>[]
variable {α:Type}
theorem Z4 (l:List α) (y:α) (f:α->α):Zbk (l++[y]) f=l++[f y]:=by simp[Zbk]
def Zlr (Zag:TC) (l:List TC):TC:=l.getLastD Zag
theorem ZIC (l:List α) (y:α) (h:l.length<=1000000):IntKind.wrap .i64 (iN (l++[y]).length-1)=(l.length:Int):=by simp only[iN,Le,Yd,List.length_cons,List.length_nil];rw[wrap_i64 _ (by omega) (by omega)];omega
theorem ZFu {r:R} (l:List r.den) (y:r.den):R.get r (l++[y]) (l.length:Int)=y:=by simp[R.get]
theorem ZlE (l:List α) (y z:α):setI (l++[y]) (l.length:Int) z=l++[z]:=by simp[setI]
theorem ZDk (l:List α) (y:α):Zf (l.length:Int) (l++[y]).length=true:=ZF.2 ⟨by omega,by simp;omega⟩
def Zpa (t:Int):Int:=bif t==8 then 2 else bif t==9 then 3 else bif t==10 then 4 else 1
def cycN (c:CORT) (t:Int) (x:TY):TY:=bif t==8 then (0,0,0,0) else bif t==9 then (0,c.1.2.1.2.2.2.2.2.2.2.2.2,0,0) else bif t==10 then (0,0,0,0) else x
def ZaD (c:CORT):Bool:=c.1.2.2.1
def sodC (c:CORT):Bool:=c.1.2.2.2.2.2.2.2.2.2.2.2.2
def Zzi (y:ITMT) (k:Int) (c:CORT):Bool:=y.1==k&&(y.2.2.2.2.1==ZaD c&&y.2.2.2.2.2==sodC c)
def ZxM (y:ITMT):ITMT:=(y.1,y.2.1,y.2.2.1,IntKind.wrap .i64 (y.2.2.2.1+1),y.2.2.2.2)
def Zf2 (l:List ITMT) (k:Int) (c:CORT) (n:ITMT):List ITMT:=match l.getLast? with
 |some y=>bif Zzi y k c then Zbk l ZxM else l++[n]
 |none=>l++[n]
def ZbR (l:List ITMT) (c:CORT) (x:TY) (t:Int):List ITMT:=
 bif Zpa t !=1 then Zf2 l (Zpa t) c (Zpa t,cycN c t x,0,1,ZaD c,sodC c)
 else bif t==1 then l++[(1,cycN c t x,0,1,ZaD c,sodC c)]
 else bif t==7 then Zbk l (λy=>(y.1,cycN c t x,IntKind.wrap .i64 (y.2.2.1+1),y.2.2.2))
 else Zbk l (λy=>(y.1,cycN c t x,y.2.2.1,IntKind.wrap .i64 (y.2.2.2.1+1),y.2.2.2.2))
def Zmh:TC:=(0,(0,0,0,0,0,0,0,(false,false,false,false,false,false,false),0,0),false,false,false,0,false,false,false,false,false,false,false)
def ZfZ:LINT:=(false,false,false,false,false,false,false,false,false)
def rdS (c:CORT) (t d:Int):TY×List Int:=bif t !=3 then (c.2.2.2.1,c.2.2.1) else (ZaF c.1 c.2.2.2.1 d,c.2.2.1++[(ZaF c.1 c.2.2.2.1 d).2.2.1])
def finS (c:CORT) (l:LINT) (d:Int):TC×Bool:=
 bif l.2.2.1 then (Zmh,false) else
 bif !Zp3 c.2.2.2.2.1 (rdS c c.2.2.2.2.1 d).1 then (Zmh,false) else
 bif (Zi (Zg c.1 l) c.2.1 (rdS c c.2.2.2.2.1 d).2).2 then (Zmh,false) else (finX (Zg c.1 l) c.2.1 (rdS c c.2.2.2.2.1 d).2 l,true)
def Zc9 (c:CORT) (t d:Int):List Int:=bif t==3 then c.2.2.1++[(Zr c t d).2.2.1] else c.2.2.1
def evE (ev:List EVTT) (c:CORT) (l:LINT) (d:Int) (cell:Cell) (moved:Bool):List EVTT:=
 let e1:=bif (finS c l d).2 then ev++[ZhO (Zlp c.2.1,c.2.1,Zc9 c (Zq c) d,ZfZ,false,false,false,false,0,0) (Zg c.1 l) l] else ev
 bif l.2.2.1 then (bif Zef c then ev++[ZhO (6,c.2.1,c.2.2.1,ZfZ,false,false,false,false,0,0) c.1 l] else ev)++[ZhO (4,0,[],ZfZ,false,false,false,false,0,0) c.1 l]
 else bif moved then e1++[(5,0,[],ZfZ,false,false,false,false,cell)] else e1
def evC (cp:List TC) (Zag:TC) (c:CORT) (after:CORT) (l:LINT) (d:Int) (moved:Bool):List TC:=
 let c1:=bif (finS c l d).2 then cp++[(finS c l d).1] else cp
 bif l.2.2.1 then (bif Zef c then cp++[Zlr Zag cp] else cp)++[after.1]
 else bif moved then c1++[Zlr Zag cp] else c1
abbrev STT:=SYST×List PINT×List ITMT×List EVTT×List TC
def nowS (s:SYST) (i:INPT):Int:=bif i.2.2.1 then 10 else Zq s.1
def Zcl (b:BRDT) (Zag:TC) (st:STT) (i:INPT):STT:=
 let k:=Zaj b st.1 i
 (k.1,st.2.1++[k.2.1],ZbR st.2.2.1 st.1.1 (Zr st.1.1 (nowS st.1 i) k.2.2.2.1) (nowS st.1 i),
  evE st.2.2.2.1 st.1.1 k.2.2.1 k.2.2.2.1 k.2.2.2.2.1 k.2.2.2.2.2,evC st.2.2.2.2 Zag st.1.1 k.1.1 k.2.2.1 k.2.2.2.1 k.2.2.2.2.2)
structure RunOk (b:BRDT) (st:STT) (n:Nat):Prop where
 g:smG b.2.1=true
 m:st.1.2.1.length<=100000+2*n
 o:st.1.2.2.2.2.2.length<=n
 k:st.1.1.2.2.1.length<=n
 t:st.2.1.length<=n
 it:st.2.2.1.length<=n
 ev:st.2.2.2.1.length<=2*n
 cp:st.2.2.2.2.length<=2*n
 ne:st.2.2.1=[]->Zq st.1.1=1
theorem ZIl (c:CORT) (l:LINT) (d:Int):(Zn c l d).2.2.1.length<=c.2.2.1.length+1:=by
 have he:∀(c:TC) (s:Int) (g:List Int) (h:Bool) (l:LINT),(endX c s g h l).2.2.1.length<=g.length:=by
  intro c s g h l;unfold endX;cases (Zi c s g).2
  ·exact Yq _
  ·exact Ye _
 unfold Zn;dsimp only;cases l.2.2.1
 ·cases Z2 c.2.2.2.2.1==1
  ·cases Z2 c.2.2.2.2.1==2||Z2 c.2.2.2.2.1==7
   ·cases Z2 c.2.2.2.2.1==8
    ·cases Z2 c.2.2.2.2.1==9
     ·cases Z2 c.2.2.2.2.1==3
      ·cases decide (Z2 c.2.2.2.2.1<c.2.2.2.1.2.2.2)&& !(Z2 c.2.2.2.2.1==6)
       ·exact Yy (he _ _ _ _ _) (YaO _)
       ·exact YaO _
      ·cases le3 (ZaF (Zg c.1 l) c.2.2.2.1 d).2.2.2
       ·simp only[Ya,Yb,Yd,List.length_singleton];omega
       ·exact Yy (he _ _ _ _ _) (by simp)
     ·cases ZbQ (Zg c.1 l) l==0
      ·exact Yq _
      ·exact YaO _
    ·exact YaO _
   ·cases l.1|| !Zj c.2.2.2.1.1<;>exact YaO _
  ·exact YaO _
 ·exact Yq _
theorem Zhq (b:BRDT) (s:SYST) (i:INPT):(Zaj b s i).1.1=Zn s.1 (Zbs b (Zu b s i) i) (busS b (Zu b s i) i).2:=by rw[(ZyA b s i).1];show Zn (busS b (Zu b s i) i).1.1 _ _=_;rw[(Zhr b (Zu b s i) i).1];rfl
theorem ZHJ (l:List α) (f:α->α):(Zbk l f).length=l.length:=by
 rcases Yaf l with rfl|⟨l',y,rfl⟩
 ·rfl
 ·rw[Y8,Z4];simp
theorem ZNT (l:List ITMT) (k:Int) (c:CORT) (n:ITMT):(Zf2 l k c n).length<=l.length+1/\Zf2 l k c n≠[]:=by
 unfold Zf2;rcases Yaf l with rfl|⟨l',y,rfl⟩
 ·exact⟨by simp,by simp⟩
 ·rw[Y8,List.getLast?_concat];dsimp only;cases Zzi y k c
  ·exact⟨by simp,by simp⟩
  ·simp only[Ya];rw[Z4];exact⟨by simp,by simp⟩
theorem ZNU (l:List ITMT) (c:CORT) (x:TY) (t:Int) (h:l=[]->t=1\/t=10):(ZbR l c x t).length<=l.length+1/\ZbR l c x t≠[]:=by
 have hj:=ZNT l (Zpa t) c (Zpa t,cycN c t x,0,1,ZaD c,sodC c);have ho:∀f:ITMT->ITMT,l≠[]->(Zbk l f).length<=l.length+1/\Zbk l f≠[]:=λf hl=>by have:=ZHJ l f;refine⟨by omega,λe=>hl ?_⟩;rw[e] at this;exact YX.1 this.symm
 unfold ZbR;cases hk:Zpa t !=1
 ·cases h1:t==1
  ·have hl:l≠[]:=λe=>by
    rcases h e with rfl|rfl
    ·simp at h1
    ·simp[Zpa] at hk
   cases t==7
   ·exact ho _ hl
   ·exact ho _ hl
  ·exact⟨by simp,by simp⟩
 ·exact hj
theorem ZV7 (s:SYST) (i:INPT) (h:Zq s.1=1):nowS s i=1\/nowS s i=10:=by
 unfold nowS;rw[h];cases i.2.2.1
 ·exact .inl rfl
 ·exact .inr rfl
theorem ZWJ (ev:List EVTT) (c:CORT) (l:LINT) (d:Int) (cell:Cell) (moved:Bool):(evE ev c l d cell moved).length<=ev.length+2:=by
 unfold evE;dsimp only;cases l.2.2.1
 ·cases (finS c l d).2<;>cases moved<;>simp
 ·cases Zef c<;>simp
theorem ZWK (cp:List TC) (Zag:TC) (c after:CORT) (l:LINT) (d:Int) (moved:Bool):(evC cp Zag c after l d moved).length<=cp.length+2:=by
 unfold evC;dsimp only;cases l.2.2.1
 ·cases (finS c l d).2<;>cases moved<;>simp
 ·cases Zef c<;>simp
theorem ZDh (b:BRDT) (Zag:TC) (st:STT) (i:INPT) (n:Nat) (h:RunOk b st n):RunOk b (Zcl b Zag st i) (n+1):=by
 have hc:=ZyA b st.1 i;have hi:=ZNU st.2.2.1 st.1.1 (Zr st.1.1 (nowS st.1 i) (Zaj b st.1 i).2.2.2.1) (nowS st.1 i) (λe=>ZV7 st.1 i (h.ne e));refine⟨h.g,?_,?_,?_,?_,?_,?_,?_,?_⟩
 ·have:=h.m;show (Zaj b st.1 i).1.2.1.length<=_;omega
 ·have:=h.o;show (Zaj b st.1 i).1.2.2.2.2.2.length<=_;omega
 ·have:=h.k;show (Zaj b st.1 i).1.1.2.2.1.length<=_;rw[Zhq];have:=ZIl st.1.1 (Zbs b (Zu b st.1 i) i) (busS b (Zu b st.1 i) i).2;omega
 ·have:=h.t;show (st.2.1++[_]).length<=_;simp;omega
 ·have:=h.it;exact Yy hi.1 (by omega)
 ·have:=h.ev;exact Yy (ZWJ _ _ _ _ _ _) (by omega)
 ·have:=h.cp;exact Yy (ZWK _ _ _ _ _ _ _) (by omega)
 ·intro e;exact absurd e hi.2
def ZbN (b:BRDT) (Zag:TC) (st:STT) (l:List INPT):STT:=l.foldl (Zcl b Zag) st
theorem Zpr (b:BRDT) (Zag:TC):∀(l:List INPT) (st:STT) (n:Nat),RunOk b st n->RunOk b (ZbN b Zag st l) (n+l.length)
 |[],st,n,h=>h
 |i::l,st,n,h=>by have:=Zpr b Zag l (Zcl b Zag st i) (n+1) (ZDh b Zag st i n h);rw[show n+(i::l).length=n+1+l.length by simp;omega];exact this
theorem ZJu (l:List α) (d:α) (i:Nat) (h:i<l.length):l.take (i+1)=l.take i++[l.getD i d]:=by rw[Yau,Yr,Yh h];rfl
def ZaS (b:BRDT):STT:=((wNew b).1,[],[],[],[])
def ZM (b:BRDT):TC:=(wNew b).1.1.1
def ZyO:SYST:=((Zmh,0,[],(0,0,0,0),0,false),[],(0,false,false,false,false,0,0,false,false,false,false,false,0,0,0,0,0,0,0,false),(0,0,0),0,[])
theorem Zmk (b:BRDT) (hg:smG b.2.1=true) (hm:smC b.2.2.2.2.2.2=true):Zml b=true:=by
 unfold Zml Zfn;simp only[RT.val,hg,hm,Yj,Ya];cases b.1 !=1&&b.1 !=2
 ·cases ZbL b.2.1 !=0
  ·cases decide (b.2.2.1<0)||(decide (b.2.2.1>100)|| !vldB b.2.2.2.2.2.2)<;>rfl
  ·rfl
 ·rfl
def newS (b:BRDT):SYST:=((((newX b.1).1.1,(0,0,0,0,0,0,0,(false,false,false,false,false,false,false),0,0),false,false,false,(newX b.1).1.2.2.2.2.2.1,false,false,false,false,false,false,false),0,[],(1,0,0,4),1,false),
 normX b.2.2.2.2.2.2,(0,false,false,false,false,0,0,false,false,false,false,false,0,0,0,0,7,0,0,false),(0,0,0),0,[])
theorem ZrA (b:BRDT) (hg:smG b.2.1=true) (hm:b.2.2.2.2.2.2.length<=100000):ZW5 b=true/\(wNew b).2=Zck b/\((wNew b).2=0->RunOk b (ZaS b) 0/\(wNew b).1.2.1=normX b.2.2.2.2.2.2):=by
 have hc:=smCb (l:=b.2.2.2.2.2.2) (by omega);have hv:(ZFY b).val=some (bif Zck b !=0 then (ZyO,Zck b) else ((newS b),0)):=by unfold ZFY;simp only[RT.val,Zmk b hg hc,hc,Ya];cases Zck b !=0<;>rfl
 refine⟨by simp only[ZW5,hv];rfl,?_,?_⟩
 ·simp only[wNew,hv,getO];cases hx:Zck b !=0
  ·simp at hx;exact hx.symm
  ·rfl
 ·intro h0;have hx:(Zck b !=0)=false:=by
   cases hx:Zck b !=0
   ·rfl
   ·simp only[wNew,hv,getO,hx,Ya] at h0;rw[h0] at hx;simp at hx
  have e:wNew b=((newS b),0):=by simp only[wNew,hv,getO,hx,Yb]
  have hn:=Zel b.2.2.2.2.2.2;unfold ZaS;rw[e];exact⟨⟨hg,by show (normX b.2.2.2.2.2.2).length<=_;omega,Ye _,Ye _,Ye _,Ye _,Ye _,Ye _,λ_=>rfl⟩,rfl⟩
def endS (Zag:TC) (st:STT):RUNT:=
 (st.2.1,st.2.2.1,bif Zef st.1.1 then st.2.2.2.1++[(7,st.1.1.2.1,st.1.1.2.2.1,ZfZ,false,false,false,false,0,0)] else st.2.2.2.1,bif Zef st.1.1 then st.2.2.2.2++[Zlr Zag st.2.2.2.2] else st.2.2.2.2,st.1)
def Zbo (b:BRDT) (l:List INPT):RUNT×Int:=bif (wNew b).2 !=0 then (([],[],[],[],ZyO),(wNew b).2) else (endS (ZM b) (ZbN b (ZM b) (ZaS b) l),0)
end
end Go.Proofs.YtpnjbfjomebppaaGreat
open Go.Proofs.Tryz (prog)
open Go Go.S3 Go.Proofs
namespace Go.Proofs.YtpnjbfjomebppaaGreat
noncomputable section
abbrev ZaL:R:=R.int u8
abbrev ZaM:Nat:=5
abbrev ZjQ:List Sh:=[So (R.sl Zfw)]
def ZyT:LS:={n:=64,Sl:=[(3,.tip 0),(7,.code (So (R.sl Zfw))),(8,.code (So Kc)),(9,.code (So Kc))],Bx:=[],Sg:=[⟨Ka,5,false⟩]}
def ZhQ (a:List INPT×Int×Int×List Int×PUnit):RT (Option (Go1 (List INPT×Int×Int×List Int×PUnit))):=
 let x1:INPT:=R.get Zfw a.1 a.2.2.1
 let x2:= !x1.1
 let x3:=Zfo x2 0
 let x4:= !x3
 let x5:=x1.2
 let x6:=x5.1
 let x7:=Zfo x6 1
 let x8:= !x7
 let x9:=x5.2
 let x10:=x9.1
 let x11:=Zfo x10 2
 let x12:= !x11
 let x13:=x9.2
 let x14:=x13.1
 let x15:=Zfo x14 3
 let x16:= !x15
 let p1:=x16::x12::x8::x4::[]
 let x17:=x13.2
 let x18:=x17.1
 let x19:=Zfo x18 4
 let x20:= !x19
 let p3:=x20::p1
 let x21:=x17.2
 let x22:=x21.1
 let x23:=Zfo x22 5
 let x24:= !x23
 let p6:=x24::p3
 let x25:=x21.2
 let x26:=x25.1
 let x27:=Zfo x26 6
 let p7:=(!x27)::p6
 let x28:=x25.2
 let x29:=x28.1
 let x30:=orR p7 (Zfo x29 7)
 let x31:= !x30
 let x32:=orR p6 x27
 let x33:= !x32
 let p2:=x33::x31::(decide (a.2.2.1>=65536))::(!Zf a.2.2.1 (Le a.1))::[]
 let x34:=orR p3 x23
 let x35:= !x34
 let p4:=x35::p2
 let x36:=orR p1 x19
 let x37:= !x36
 let p5:=x37::p4
 let x38:=x4||(x8||(x12||x15))
 let x39:= !x38
 let p8:=x39::p5
 let x40:=x4||(x8||x11)
 let x41:= !x40
 let p9:=x41::p8
 let x42:=x4||x7
 let x43:= !x42
 let p10:=x43::p9
 let p11:=x4::p10
 let x44:=orI u8 (orI u8 (orI u8 (orI u8 (orI u8 (orI u8 (orI u8 (wBit x2 0) (wBit x6 1)) (wBit x10 2)) (wBit x14 3)) (wBit x18 4)) (wBit x22 5)) (wBit x26 6)) (wBit x29 7)
 let x45:=x28.2
 let x46:=x45.1
 let x47:=x45.2
 let x48:List Int:=a.2.2.2.1++[x44,x46,x47,Zhy x44 x46 x47]
 .br (decide (a.2.2.1<a.2.1)) (.br (orR p11 (Nat.ble (Le x48) most)) (.br (orR p10 x3) (.br (orR p9 x42) (.br (orR p8 x40) (.br (orR p5 x38) (.br (orR p4 x36) (.br (orR p2 x34) (.br (!Zf a.2.2.1 (Le a.1)||(decide (a.2.2.1>=65536)||(x31||x32))) (.br (!Zf a.2.2.1 (Le a.1)||(decide (a.2.2.1>=65536)||x30)) (.br (Zf a.2.2.1 (Le a.1)) (.br (decide (a.2.2.1>=65536)) (Ls (Go1.brk (a.1,a.2.1,a.2.2.1,a.2.2.2.1,PUnit.unit))) (Ls (Go1.cont (a.1,a.2.1,i64.wrap (a.2.2.1+1),x48,PUnit.unit)))) Ln) Ln) Ln) Ln) Ln) Ln) Ln) Ln) Ln) Ln) (Ls (Go1.brk (a.1,a.2.1,a.2.2.1,a.2.2.2.1,PUnit.unit)))
def Zmn:Ora:=Zbr false ZyT ZhQ (λa=>1000000000000)
theorem ZrB:Za1 (envX prog [(116,ZT2),(117,ZyU)] [] 127 8) (.block 0 (.loop (Z7 Tryz.f56.body 0))) Zmn:=
 loopP ⟨ZIK,Zve,Tv⟩
def Zf8 (l:List INPT):RT (Option (List Int)):=
 let x1:=runF false ZhQ (λa=>1000000000000) (l,iN (Le l),0,[],())
 .br (okB x1) (Ls (getO (false,l,iN (Le l),0,[],()) x1).2.2.2.2.1) Ln
def Zby (l:List INPT):List Int:=getO [] (Zf8 l).val
def Zf9 (l:List INPT):Bool:=okB (Zf8 l).val
def Zvc:En:=frzE (newE ZaL ZaM ZjQ (λa=>some (Zf9 a)) (λa=>Zby a))
theorem Zvd:Zb prog 56 (newE ZaL ZaM ZjQ (λa=>some (Zf9 a)) (λa=>Zby a)):=
 Zl1 (P:=prog) (n:=127) (k:=8) (l:=[(116,ZT2),(117,ZyU)]) (ol:=[(0,Zmn)]) ⟨ZIK,Zve,Tv⟩ Tryz.func56 rfl (by kernel_rfl) Tryz.call56 ⟨ZrB,Tv⟩ (r:=ZaL) (T:=ZaM) (ts:=ZjQ) (t:=λa=>Zf8 a) (λa=>by kernel_rfl)
theorem ZyS:Zb prog 56 Zvc:=Zyi Zvd
def Zhd (s:List Int×Int) (n:Int):RT (Option (List Int×List Int×Int)):=
 let x1:=decide (iN (Le (Stg.l (newG ZaL ZaM (Zby (Zaf s n).1))))>0)
 let x2:=x1&&(Za (Zaf s n).2 4).1==0
 let x3:= !x2
 let x4:List Int:=bif x1 then (Za (Zaf s n).2 4).2.1 else (Zaf s n).2.1
 let x5:Int:=bif x1 then (Za (Zaf s n).2 4).2.2 else (Zaf s n).2.2
 let x6:List Int×Int:=(x4,x5)
 let x7:=Zl x6 (iN (Le (Stg.l (newG ZaL ZaM (Zby (Zaf s n).1)))))
 let x8:= !x7
 let x9:=Za x6 (iN (Le (Stg.l (newG ZaL ZaM (Zby (Zaf s n).1)))))
 let x10:=x9.1
 let x11:=Zf x10 (Le (Stg.l (newG ZaL ZaM (Zby (Zaf s n).1))))
 let x12:= !x11
 let x13:=x9.2
 let x14:=Zl x13 8
 let x15:= !x14
 let p1:=x15::x12::x8::x3::[]
 let x16:=Za x13 8
 let x17:=x16.1
 let x18:=decide (0<=x17)
 let p2:=(!x18)::p1
 let x19:=x16.2
 .br (!Zje s n||Zf9 (Zaf s n).1) (.br (Zje s n) (.br (!x1||Zl (Zaf s n).2 4) (.br (orR p2 x11) (.br (orR p1 x18) (.br (x3||(x8||(x12||x14))) (.br (x3||(x8||x11)) (.br (x3||x7) (Ls ((bif x2 then setI (Stg.l (newG ZaL ZaM (Zby (Zaf s n).1))) x10 (xorI u8 (R.get (Stg.r (newG ZaL ZaM (Zby (Zaf s n).1))) (Stg.l (newG ZaL ZaM (Zby (Zaf s n).1))) x10) (shlI u8 1 x17)) else Stg.l (newG ZaL ZaM (Zby (Zaf s n).1)),bif x2 then x19.1 else x4,bif x2 then x19.2 else x5))) Ln) Ln) Ln) Ln) Ln) Ln) Ln) Ln
def Zgz (s:List Int×Int) (n:Int):List Int×List Int×Int:=getO (ZII.Df,ZBR.Df) (Zhd s n).val
def Zl2 (s:List Int×Int) (n:Int):Bool:=okB (Zhd s n).val
def ZE6:En:=boxE ZBR Zw8 ZII (λa=>some (Zl2 a.1 a.2)) (λa=>Zgz a.1 a.2)
theorem ZHO:Zb prog 67 ZE6:=
 ZcA (P:=prog) (n:=63) (k:=8) (l:=[(56,Zvc),(68,ZcS),(125,ZE7)]) (ol:=[]) ⟨ZyS,Zbb,ZHR,Tv⟩ Tryz.func67 rfl (by kernel_rfl) Tryz.call67 trivial (rb:=ZBR) (ts:=Zw8) (rs:=ZII) (t:=λa=>Zhd a.1 a.2) (λa=>by kernel_rfl)
theorem ZOB:ZhQ=ZdX:=by funext a;rfl
theorem ZPs (l:List INPT) (hl:l.length<=1000):Zf9 l=true/\Zby l=Zmo l/\(Zby l).length=4*l.length:=by
 have h:=ZFZ l hl;have e:Zf8 l=ZgS l:=by unfold Zf8 ZgS;rw[ZOB]
 have e2:Zby l=Zmo l:=by unfold Zby Zmo;rw[e];rfl
 refine⟨by unfold Zf9;rw[e];exact h.1,e2,by rw[e2];exact h.2⟩
theorem ZHP {s:List Int×Int} {k:Int} (h:NB s k) (hk:k<=50000) (n:Nat) (hn:n<=250):
  Zl2 s (n:Int)=true/\NB (Zgz s (n:Int)).2 (k+10+30*n)/\(Zgz s (n:Int)).1.length<=4*n/\∃m:Nat,(Zgz s (n:Int)).1.length=4*m:=by
 have hms:=mst;obtain⟨c1,b1,l1⟩:=ZHS h (by omega) n hn;obtain⟨c2,e2,l2⟩:=ZPs (Zaf s (n:Int)).1 (by omega);have hg:∀l:List Int,Stg.l (newG ZaL ZaM l)=l:=λ_=>rfl
 have hr:∀l:List Int,Stg.r (newG ZaL ZaM l)=R.int .u8:=λ_=>rfl
 obtain⟨L,hL⟩:∃L,L=Zby (Zaf s (n:Int)).1:=⟨_,rfl⟩;rw[<-hL] at l2;obtain⟨c3,b3,_⟩:=Zs b1 (by omega) 4 (by decide) (by decide);have b4:NB (bif decide (iN L.length>0) then (Za (Zaf s (n:Int)).2 4).2.1 else (Zaf s (n:Int)).2.1,bif decide (iN L.length>0) then (Za (Zaf s (n:Int)).2 4).2.2 else (Zaf s (n:Int)).2.2) (k+3+30*n):=by
  cases decide (iN L.length>0)
  ·exact b1.up (by omega)
  ·exact b3.up (by omega)
 obtain⟨s4,hs4⟩:∃s4:List Int×Int,s4=(bif decide (iN L.length>0) then (Za (Zaf s (n:Int)).2 4).2.1 else (Zaf s (n:Int)).2.1,bif decide (iN L.length>0) then (Za (Zaf s (n:Int)).2 4).2.2 else (Zaf s (n:Int)).2.2):=⟨_,rfl⟩;rw[<-hs4] at b4;have hv:∃l s',(Zhd s (n:Int)).val=some (l,s')/\NB s' (k+10+30*n)/\l.length=L.length:=by
  by_cases hz:0<L.length
  ·have d:decide (iN L.length>0)=true:=Yz (by simp only[iN,Le];omega);obtain⟨c5,b5,d0,d1⟩:=Zs b4 (by omega) (iN L.length) (by simp only[iN,Le];omega) (by simp only[iN,Le];omega);obtain⟨c6,b6,f0,f1⟩:=Zs b5 (by omega) 8 (by decide) (by decide);have r5:Zf (Za s4 (iN L.length)).1 L.length=true:=ZF.2 ⟨d0,by simpa [iN,Le] using d1⟩;have e6:decide (0<=(Za (Za s4 (iN L.length)).2 8).1)=true:=Yz f0;rw[d] at hs4;simp only[Ya] at hs4;unfold Zhd;simp only[RT.val,hg,hr,<-hL,c1,c2,d,c3,<-hs4,c5,r5,c6,e6,ZcQ,ZbO,YI,Yf,Yj,Yi,Ya];cases (Za (Zaf s (n:Int)).2 4).1==0
   ·exact⟨_,_,rfl,b3.up (by omega),rfl⟩
   ·exact⟨_,_,rfl,b6.up (by omega),by simp only[Ya,setI,YaI]⟩
  ·have d:decide (iN L.length>0)=false:=YO (by simp only[iN,Le];omega);rw[d] at hs4;simp only[Yb] at hs4;unfold Zhd;simp only[RT.val,hg,hr,<-hL,c1,c2,d,ZcQ,ZbO,YP,Yf,Yl,Yv,Yj,Yi,Ya,Yb];exact⟨_,_,rfl,b1.up (by omega),rfl⟩
 obtain⟨l,s',hv,h1,h2⟩:=hv;simp only[Zl2,Zgz,hv,okB,getO];exact⟨trivial,h1,by omega,(Zaf s (n:Int)).1.length,by omega⟩
abbrev Zu5:List Sh:=[Sh.agg Zat,Sh.agg Zht]
def ZCC (c:TC) (e:EVTT):RT TC:=
 .br (bif e.1==1 then e.1==1 else bif e.1==2 then e.1==2 else e.1==3) (.Lf (finX ((Zo c e.2.1).1,(Zo c e.2.1).2.1,(Zo c e.2.1).2.2.1,(Zo c e.2.1).2.2.2.1,(Zo c e.2.1).2.2.2.2.1,(Zo c e.2.1).2.2.2.2.2.1,e.2.2.2.2.2.1,e.2.2.2.2.1,e.2.2.2.2.2.2.2.1,e.2.2.2.2.2.2.1,(Zo c e.2.1).2.2.2.2.2.2.2.2.2.2) e.2.1 e.2.2.1 e.2.2.2.1)) (.br (e.1==4) (.Lf (((ZB c).1,((ZB c).2.1.1,(ZB c).2.1.2.1,(ZB c).2.1.2.2.1,(ZB c).2.1.2.2.2.1,(ZB c).2.1.2.2.2.2.1,(ZB c).2.1.2.2.2.2.2.1,(ZB c).2.1.2.2.2.2.2.2.1,(ZB c).2.1.2.2.2.2.2.2.2.1,(ZB c).2.1.2.2.2.2.2.2.2.2.1,0),false,false,false,(ZB c).2.2.2.2.2.1,false,false,false,false,false,false,false))) (.Lf (c)))
def ZPe (c:TC) (e:EVTT):TC:=(ZCC c e).val
def ZWY:En:=Zh Zu5 ZLt (λ_=>none) (λa=>ZPe a.1 a.2)
theorem ZPd:Zb prog 28 ZWY:=
 pureQ 34359738527 [(80,Zi3),(81,Zgv),(85,ZRe)] [] _ _ ⟨Zg9,ZfF,ZMw,Tv⟩ Tryz.func28 Tryz.call28 trivial
abbrev ZjM:Rs:=Rs.one (So (R.sl (RY)))
def ZIt:LS:={n:=67,Sl:=[(2,.fix (A.loc 0 0)),(3,.fix (A.loc 1 0)),(5,.tip 0),(23,.code (So (R.sl Ka))),(24,.code (So Kc)),(25,.code (So Kc))],Bx:=[[.many Zat],[.many Zht]],Sg:=[⟨(RY),41,true⟩]}
def Zd4 (a:List Int×Int×Int×TC×EVTT×List TY×PUnit):RT (Option (Go1 (List Int×Int×Int×TC×EVTT×List TY×PUnit))):=
 let x1:=decide (0<=0)&&decide (0<=a.2.2.1)&&(decide (a.2.2.1=0)||decide (a.2.2.1<=iN (Le a.2.2.2.2.1.2.2.1)))
 let x2:=Zi a.2.2.2.1 a.2.2.2.2.1.2.1 (subL a.2.2.2.2.1.2.2.1 0 a.2.2.1)
 let x3:= !x2.2
 let x4:=x2.1
 let x5:=x4.1
 let x6:=x4.2
 let x7:=x6.2
 let x8:List TY:=a.2.2.2.2.2.1++[(x5,x6.1,bif Za2 x5 then R.get Ka a.1 a.2.2.1 else x7.1,bif x5==1||x5==8 then Zee a.2.2.2.1.1 (R.get Ka a.1 a.2.2.1) else x7.2)]
 .br (decide (a.2.2.1<a.2.1)) (.br (!Zf a.2.2.1 (Le a.1)||(!x1||(x3||Nat.ble (Le x8) most))) (.br (!Zf a.2.2.1 (Le a.1)||x1) (.br (Zf a.2.2.1 (Le a.1)) (.br (x3) (Ls (Go1.brk (a.1,a.2.1,a.2.2.1,a.2.2.2.1,a.2.2.2.2.1,a.2.2.2.2.2.1,PUnit.unit))) (Ls (Go1.cont (a.1,a.2.1,i64.wrap (a.2.2.1+1),a.2.2.2.1,a.2.2.2.2.1,x8,PUnit.unit)))) Ln) Ln) Ln) (Ls (Go1.brk (a.1,a.2.1,a.2.2.1,a.2.2.2.1,a.2.2.2.2.1,a.2.2.2.2.2.1,PUnit.unit)))
def Zru:Ora:=Zbr true ZIt Zd4 (λa=>1000000000000)
theorem ZyG:Za1 (envX prog [(81,Zgv),(82,Zoo),(83,ZcP),(84,ZlV)] [] 5119 8) (.block 1 (.loop (Z7 Tryz.f27.body 1))) Zru:=
 loopP ⟨ZfF,Zi4,Zdc,Zkh,Tv⟩
def ZjL (c:TC) (e:EVTT):RT (Option (List TY)):=
 let x1:List Int×Int×Int×TC×EVTT×List TY×PUnit:=(e.2.2.1,iN (Le e.2.2.1),0,Zo c e.2.1,e,[],())
 let x2:=runF true Zd4 (λa=>1000000000000) x1
 let x3:=getO (false,x1) x2
 .br (bif e.1==1 then e.1==1 else bif e.1==2 then e.1==2 else bif e.1==3 then e.1==3 else bif e.1==6 then e.1==6 else e.1==7) (.br (okB x2) (.br x3.1 Ln (Ls x3.2.2.2.2.2.2.1)) Ln) (Ls ([]))
def ZCB (c:TC) (e:EVTT):List TY:=getO ZjM.Df (ZjL c e).val
def Zu4 (c:TC) (e:EVTT):Bool:=okB (ZjL c e).val
def ZSz:En:=Zh Zu5 ZjM (λa=>some (Zu4 a.1 a.2)) (λa=>ZCB a.1 a.2)
theorem ZIs:Zb prog 27 ZSz:=
 pureP 5119 [(81,Zgv),(82,Zoo),(83,ZcP),(84,ZlV)] [(1,Zru)] _ _ ⟨ZfF,Zi4,Zdc,Zkh,Tv⟩ Tryz.func27 Tryz.call27 ⟨ZyG,Tv⟩
abbrev Zmm:List Sh:=[So (R.sl (RY)),So (R.sl (RY))]
def ZFX:LS:={n:=26,Sl:=[(0,.code (So (R.sl (RY)))),(1,.code (So (R.sl (RY)))),(4,.code (So R.bool)),(12,.code (So Kc)),(13,.code (So Kc))],Bx:=[],Sg:=[]}
def ZeW (a:List TY×List TY×Bool×Int×Int×PUnit):RT (Option (Go1 (List TY×List TY×Bool×Int×Int×PUnit))):=
 let x1:= !Zf a.2.2.2.2.1 (Le a.1)||Zf a.2.2.2.2.1 (Le a.2.1)
 let x2:QT15:=R.get (RY) a.1 a.2.2.2.2.1
 let x3:QT15:=R.get (RY) a.2.1 a.2.2.2.2.1
 let x8:Int×Int×PUnit:=(a.2.2.2.1,a.2.2.2.2.1,PUnit.unit)
 .br (decide (a.2.2.2.2.1<a.2.2.2.1)) (.br (!x1||Zf a.2.2.2.2.1 (Le a.1)) (.br (x1) (.br (!(R.eqf RY x2 x3 true)) (Ls (Go1.ret (a.1,a.2.1,false,x8))) (Ls (Go1.cont (a.1,a.2.1,a.2.2.1,a.2.2.2.1,i64.wrap (a.2.2.2.2.1+1),PUnit.unit)))) Ln) Ln) (Ls (Go1.brk (a.1,a.2.1,a.2.2.1,x8)))
def Zqe:Ora:=Zbr true ZFX ZeW (λa=>1000000000000)
theorem Zvb:Za1 (envX prog [] [] 63 8) (.block 0 (.loop (Z7 Tryz.f29.body 0))) Zqe:=
 loopP trivial
def Zil (a:List TY) (b:List TY):RT (Option (Bool)):=
 let x1:=runF true ZeW (λa_1=>1000000000000) (a,b,false,iN (Le a),0,())
 let x2:=getO (false,a,b,false,iN (Le a),0,()) x1
 .br (iN (Le a) !=iN (Le b)) (Ls (false)) (.br (okB x1) (.br x2.1 (Ls x2.2.2.2.1) (Ls (true))) Ln)
def ZyR (a:List TY) (b:List TY):Bool:=getO ZnL.Df (Zil a b).val
def Zrz (a:List TY) (b:List TY):Bool:=okB (Zil a b).val
def ZPq:En:=Zh Zmm ZnL (λa=>some (Zrz a.1 a.2)) (λa=>ZyR a.1 a.2)
theorem ZFW:Zb prog 29 ZPq:=
 pureP 63 [] [(0,Zqe)] _ _ trivial Tryz.func29 Tryz.call29 ⟨Zvb,Tv⟩
def Zqa (k:Int):Bool:=k==1||(k==2||k==3)
def ZEi (c:TC) (e:EVTT):TC:=(c.1,c.2.1,c.2.2.1,c.2.2.2.1,c.2.2.2.2.1,c.2.2.2.2.2.1,e.2.2.2.2.2.1,e.2.2.2.2.1,e.2.2.2.2.2.2.2.1,e.2.2.2.2.2.2.1,c.2.2.2.2.2.2.2.2.2.2)
def Zb8 (c:TC) (e:EVTT):TC:=bif Zqa e.1 then finX (ZEi (Zo c e.2.1) e) e.2.1 e.2.2.1 e.2.2.2.1 else bif e.1==4 then ZB c else c
theorem ZWZ (c:TC) (e:EVTT):ZPe c e=Zb8 c e:=by unfold ZPe ZCC Zb8 Zqa;simp only[RT.val];cases e.1==1<;>cases e.1==2<;>cases e.1==3<;>cases e.1==4<;>rfl
def ZqV (c:TC) (x:TY) (b:Int):TY:=(x.1,x.2.1,bif Za2 x.1 then b else x.2.2.1,bif x.1==1||x.1==8 then Zee c.1 b else x.2.2.2)
def cyX (c:TC) (s:Int) (g:List Int):List Int->List TY
 |[]=>[]
 |b::r=>bif (Zi c s g).2 then ZqV c (Zi c s g).1 b::cyX c s (g++[b]) r else []
def cycE (k:Int):Bool:=Zqa k||(k==6||k==7)
def Zb4 (c:TC) (e:EVTT):List TY:=bif cycE e.1 then cyX (Zo c e.2.1) e.2.1 [] e.2.2.1 else []
theorem ZSm (c:TC) (s:Int) (g:List Int) (b:Int) (r:List Int):cyX c s g (b::r)=bif (Zi c s g).2 then ZqV c (Zi c s g).1 b::cyX c s (g++[b]) r else []:=rfl
theorem ZWS (c:TC) (s:Int) (g:List Int):cyX c s g []=[]:=rfl
variable {α:Type}
theorem ZTQ {b:Bool} {x y z:α} (h:b=true) (e:x=z:=by rfl):(bif b then x else y)=z:=by rw[h];exact e
theorem ZOW (c:TC) (s:Int):∀(r g:List Int),(cyX c s g r).length<=r.length
 |[],g=>Ye _
 |b::r,g=>by
  have:=ZOW c s r (g++[b]);unfold cyX;cases (Zi c s g).2
  ·exact Yq _
  ·simp only[Ya,List.length_cons];omega
theorem ZJy (g:List Int) (i:Nat):subL g 0 (i:Int)=g.take i:=by simp[subL]
theorem ZSb (g:List Int) (i:Nat) (h:i<g.length):g.drop i=R.get (R.int .u8) g (i:Int)::g.drop (i+1):=by rw[Y7 h];simp[R.get,Yh h]
theorem ZPO (g:List Int) (i:Nat) (h:i<g.length):g.take (i+1)=g.take i++[R.get (R.int .u8) g (i:Int)]:=by rw[Yau,Yh h];simp[R.get,Yh h]
theorem cyc_b (c:TC) (e:EVTT) (h:e.2.2.1.length<=1000000):Zu4 c e=true/\ZCB c e=Zb4 c e:=by
 have hms:=mst;obtain⟨r,hr,h0,h1⟩:=ZI (fl:=true) (t:=Zd4) (fuel:=λ_=>1000000000000)
  (λa=>∃(i:Nat) (o:List TY),i<=e.2.2.1.length/\o.length<=i/\o++cyX (Zo c e.2.1) e.2.1 (e.2.2.1.take i) (e.2.2.1.drop i)=cyX (Zo c e.2.1) e.2.1 [] e.2.2.1/\a=(e.2.2.1,(e.2.2.1.length:Int),(i:Int),Zo c e.2.1,e,o,()))
  (λa=>Int.toNat (a.2.1-a.2.2.1)) (λr=>r.1=false/\r.2.2.2.2.2.2.1=cyX (Zo c e.2.1) e.2.1 [] e.2.2.1)
  (by
   rintro a ⟨i,o,hi,ho,hc,rfl⟩;by_cases hlt:i<e.2.2.1.length
   ·have d:decide ((i:Int)<(e.2.2.1.length:Int))=true:=Yz (by omega);have hin:Zf (i:Int) e.2.2.1.length=true:=ZF.2 ⟨by omega,by omega⟩;have w:IntKind.wrap .i64 ((i:Int)+1)=((i+1:Nat):Int):=by rw[wrap_i64 _ (by omega) (by omega)];omega
    have h0:(decide ((0:Int)<=0)&&decide ((0:Int)<=(i:Int))&&(decide ((i:Int)=0)||decide ((i:Int)<=iN e.2.2.1.length)))=true:=by
     have:(i:Int)<=iN e.2.2.1.length:=by simp only[iN,Le];omega
     simp[this]
    have hb:∀x:TY,Nat.ble (o++[x]).length most=true:=λx=>ZaV (by simp;omega)
    rw[ZSb _ i hlt,ZSm] at hc;cases hn:(Zi (Zo c e.2.1) e.2.1 (e.2.2.1.take i)).2
    ·right;left;rw[hn] at hc;simp only[Yb,YC] at hc;refine⟨(e.2.2.1,(e.2.2.1.length:Int),(i:Int),Zo c e.2.1,e,o,()),?_,rfl,hc⟩;simp only[Zd4,RT.val,d,hin,ZJy,hn,hb,Yl,Yf,Yj,Yv,Yi,Ya];exact ZTQ h0
    ·left;rw[hn] at hc;simp only[Ya] at hc;refine⟨(e.2.2.1,(e.2.2.1.length:Int),((i+1:Nat):Int),Zo c e.2.1,e,o++[ZqV (Zo c e.2.1) (Zi (Zo c e.2.1) e.2.1 (e.2.2.1.take i)).1 (R.get (R.int .u8) e.2.2.1 (i:Int))],()),?_,⟨i+1,_,by omega,by simp;omega,?_,rfl⟩,by simp only;omega⟩
     ·simp only[Zd4,RT.val,d,hin,w,ZJy,hn,hb,Yl,Yf,Yj,Yv,Yi,Ya,Yb];exact ZTQ h0
     ·rw[ZPO _ i hlt,Yp];exact hc
   ·right;left;have e1:i=e.2.2.1.length:=by omega
    subst e1;have d:decide ((e.2.2.1.length:Int)<(e.2.2.1.length:Int))=false:=YO (by omega);rw[YaD,List.drop_length,ZWS,YC] at hc
    exact⟨(e.2.2.1,(e.2.2.1.length:Int),(e.2.2.1.length:Int),Zo c e.2.1,e,o,()),by simp only[Zd4,RT.val,d,Yb],rfl,hc⟩)
  (e.2.2.1,(e.2.2.1.length:Int),0,Zo c e.2.1,e,[],()) ⟨0,[],Yq _,Ye _,rfl,rfl⟩ (by simp only;omega)
 obtain⟨r1,r2⟩:=r;simp only at h0 h1;subst h0;have hv:(ZjL c e).val=some (Zb4 c e):=by unfold ZjL Zb4 cycE Zqa;simp only[RT.val,iN,Le,hr,okB,getO,Ya,Yb,h1];cases e.1==1<;>cases e.1==2<;>cases e.1==3<;>cases e.1==6<;>cases e.1==7<;>rfl
 exact⟨by simp only[Zu4,hv];rfl,by simp only[ZCB,hv,getO]⟩
def Zp1 (c:TC):List EVTT->List TC
 |[]=>[]
 |e::l=>Zb8 c e::Zp1 (Zb8 c e) l
def ZaN (c:TC) (l:List EVTT):TC:=l.foldl Zb8 c
variable {r:R}
theorem ZmJ (g:List r.den) (i:Nat) (h:i<g.length):g.take (i+1)=g.take i++[R.get r g (i:Int)]:=by rw[Yau,Yh h];simp[R.get,Yh h]
theorem ZP1 (hp:r.plain=true) (T:List r.den×List r.den×Bool×Int×Int×PUnit->RT (Option (Go1 (List r.den×List r.den×Bool×Int×Int×PUnit))))
  (hT:∀(a b:List r.den) (f:Bool) (n i:Int),Zf i a.length=true->Zf i b.length=true->(T (a,b,f,n,i,())).val=bif decide (i<n) then (bif r.eqf (R.get r a i) (R.get r b i) true then some (.cont (a,b,f,n,IntKind.wrap .i64 (i+1),())) else some (.ret (a,b,false,n,i,()))) else some (.brk (a,b,f,n,i,())))
  (hT2:∀(a b:List r.den) (f:Bool) (n:Int),(T (a,b,f,n,n,())).val=some (.brk (a,b,f,n,n,())))
  (a b:List r.den) (h:a.length=b.length) (hl:a.length<=1000000000):
  ∃q,runF true T (λ_=>1000000000000) (a,b,false,(a.length:Int),0,())=some q/\((q.1=false/\a=b)\/(q.1=true/\a≠b/\q.2.2.2.1=false)):=by
 refine ZI (fl:=true) (t:=T) (fuel:=λ_=>1000000000000)
  (λx=>∃i:Nat,i<=a.length/\a.take i=b.take i/\x=(a,b,false,(a.length:Int),(i:Int),()))
  (λx=>Int.toNat (x.2.2.2.1-x.2.2.2.2.1)) _ ?_ _ ⟨0,Yq _,rfl,rfl⟩ (by simp only;omega)
 rintro x ⟨i,hi,ht,rfl⟩;by_cases hlt:i<a.length
 ·have d:decide ((i:Int)<(a.length:Int))=true:=Yz (by omega);have i1:Zf (i:Int) a.length=true:=ZF.2 ⟨by omega,by omega⟩;have i2:Zf (i:Int) b.length=true:=ZF.2 ⟨by omega,by omega⟩;have w:IntKind.wrap .i64 ((i:Int)+1)=((i+1:Nat):Int):=by rw[wrap_i64 _ (by omega) (by omega)];omega
  cases he:r.eqf (R.get r a (i:Int)) (R.get r b (i:Int)) true
  ·right;right;refine⟨(a,b,false,(a.length:Int),(i:Int),()),rfl,by rw[hT _ _ _ _ _ i1 i2];simp only[d,he,Ya,Yb],.inr ⟨rfl,λe=> ?_,rfl⟩⟩;rw[e,R.eqf_refl] at he;exact absurd he (by simp)
  ·left;have e:=((R.eqf_iff r hp _ _ _).1 he).1;refine⟨(a,b,false,(a.length:Int),((i+1:Nat):Int),()),by rw[hT _ _ _ _ _ i1 i2];simp only[d,he,w,Ya],⟨i+1,by omega,?_,rfl⟩,by simp only;omega⟩;rw[ZmJ a i hlt,ZmJ b i (by omega),ht,e]
 ·right;left;have e1:i=a.length:=by omega
  subst e1;refine⟨_,hT2 _ _ _ _,.inl ⟨rfl,?_⟩⟩;rw[YaD] at ht;rw[ht,h,YaD]
def Ziy (r:R):List r.den->List r.den->Bool
 |[],[]=>true
 |x::a,y::b=>r.eqf x y (Ziy r a b)
 |_,_=>false
theorem ZmR (r:R) (hp:r.plain=true):∀a b:List r.den,Ziy r a b=true↔a=b
 |[],[]=>by simp[Ziy]
 |[],y::b=>by simp[Ziy]
 |x::a,[]=>by simp[Ziy]
 |x::a,y::b=>by simp only[Ziy];rw[R.eqf_iff r hp,ZmR r hp a b];simp
theorem Zqz (r:R):∀a:List r.den,Ziy r a a=true
 |[]=>rfl
 |x::a=>by simp only[Ziy,R.eqf_refl,Zqz r a]
theorem ZDd (r:R) (hp:r.plain=true) {a b:List r.den} (h:a≠b):Ziy r a b=false:=by
 cases hq:Ziy r a b
 ·rfl
 ·exact absurd ((ZmR r hp a b).1 hq) h
theorem ZYu {a b:List α} (h:(iN a.length !=iN b.length)=true):a≠b:=λe=>by subst e;simp at h
theorem ZJT (a b:List TY) (h:a.length<=1000000000):Zrz a b=true/\ZyR a b=Ziy RY a b:=by
 have hv:(Zil a b).val=some (Ziy RY a b):=by
  unfold Zil;cases hx:iN a.length !=iN b.length
  ·have hl:a.length=b.length:=by simp only[iN,Le,bne_eq_false_iff_eq] at hx;omega
   obtain⟨q,hr,hq⟩:=ZP1 (r:=RY) rfl ZeW (λa b f n i h1 h2=>by
    simp only[ZeW,RT.val,h1,h2,Yf,YaM,Yi,Ya];cases decide (i<n)
    ·rfl
    ·simp only[Ya]
     cases RY.eqf (R.get RY a i) (R.get RY b i) true<;>rfl) (λa b f n=>by
    have d:decide (n<n)=false:=YO (by omega)
    simp only[ZeW,RT.val,d,Yb]) a b hl h
   simp only[RT.val,iN,Le] at hr|-;rcases hq with ⟨e1,e2⟩|⟨e1,e2,e3⟩
   ·rw[(ZmR RY rfl a b).2 e2];simp only[hr,e1,okB,getO,Ya,Yb]
   ·simp only[hr,e1,e3,okB,getO,Ya,Yb];exact congrArg some (ZDd RY rfl e2).symm
  ·simp only[RT.val,hx,Ya];exact congrArg some (ZDd RY rfl (ZYu hx)).symm
 exact⟨by simp only[Zrz,hv];rfl,by simp only[ZyR,hv,getO]⟩
def ZJ2 (e:EVTT):Bool:=Nat.ble e.2.2.1.length 1000000
def ZGb {α:Type} (l:List α):Bool:=Nat.ble l.length 1000000
theorem ZP6 {l:List α} (h:ZGb l=true):l.length<=1000000:=by simpa [ZGb] using h
theorem ZP7 {e:EVTT} (h:ZJ2 e=true):e.2.2.1.length<=1000000:=by simpa [ZJ2] using h
def Zmg:En:=Zh Zu5 ZLt (λ_=>none) (λa=>Zb8 a.1 a.2)
theorem ZkT:Zb Tryz.prog 28 Zmg:=ZPd.tot (λa h=>by simp) (λa h=>ZWZ a.1 a.2)
def ZjN:En:=Zh Zu5 ZjM (λa=>some (ZJ2 a.2)) (λa=>Zb4 a.1 a.2)
theorem Zih:Zb Tryz.prog 27 ZjN:=ZpZ ZIs λa h=>cyc_b a.1 a.2 (ZP7 h)
def Zin:En:=Zh Zmm ZnL (λa=>some (ZGb a.1)) (λa=>Ziy RY a.1 a.2)
theorem ZhP:Zb Tryz.prog 29 Zin:=ZpZ ZFW λa h=>ZJT a.1 a.2 (Yy (ZP6 h) (by omega))
def ZzO (l:Int) (k:Int):RT (Int):=
 .Lf (andI i64 (i64.wrap (i64.wrap (andI i64 l 7-andI i64 k 7)+7)) 7)
def ZwR (l:Int) (k:Int):Int:=(ZzO l k).val
def ZKU:En:=Zh ZJh ZTf (λ_=>none) (λa=>ZwR a.1 a.2)
theorem ZKT:Zb prog 381 ZKU:=
 pureQ 31 [] [] _ _ trivial Tryz.func381 Tryz.call381 trivial
abbrev ZD3:List Sh:=[So Ka,So Kc]
def ZKX:LS:={n:=22,Sl:=[(0,.code (So Ka)),(1,.code (So Kc)),(4,.code (So Kc)),(5,.code (So Kc))],Bx:=[],Sg:=[]}
def Zdv (a:QT23):RT (Option (Go1 (QT23))):=
 let x1:=andI i64 (i64.wrap (andI i64 a.2.1 7+a.2.2.2.1)) 7
 .br (decide (a.2.2.2.1<=8)) (.br (decide (0<=x1)) (.br (andI u8 (shrI u8 a.1 x1) 1==1) (Ls (Go1.ret (a.1,a.2.1,x1,a.2.2.2.1,PUnit.unit))) (Ls (Go1.cont (a.1,a.2.1,a.2.2.1,i64.wrap (a.2.2.2.1+1),PUnit.unit)))) Ln) (Ls (Go1.brk (a.1,a.2.1,a.2.2.1,a.2.2.2.1,PUnit.unit)))
def ZwT:Ora:=Zbr true ZKX Zdv (λa=>9)
theorem ZzP:Za1 (envX prog [] [] 127 8) (.block 0 (.loop (Z7 Tryz.f346.body 0))) ZwT:=
 loopP trivial
def Zh2 (s:Int) (k:Int):RT (Option (Int)):=
 let x1:=runF true Zdv (λa=>9) (s,k,0,1,())
 let x2:=getO (false,s,k,0,1,()) x1
 .br (okB x1) (.br x2.1 (Ls x2.2.2.2.1) (Ls (-1))) Ln
def ZiT (s:Int) (k:Int):Int:=getO ZTf.Df (Zh2 s k).val
def Zh3 (s:Int) (k:Int):Bool:=okB (Zh2 s k).val
def ZzQ:En:=Zh ZD3 ZTf (λa=>some (Zh3 a.1 a.2)) (λa=>ZiT a.1 a.2)
theorem ZwS:Zb prog 346 ZzQ:=
 pureP 127 [] [(0,ZwT)] _ _ trivial Tryz.func346 Tryz.call346 ⟨ZzP,Tv⟩
abbrev ZD1:List Sh:=[So Ka,So Ka,So Ka,So Kc,So R.bool]
def Zne (r:Int) (m:Int) (s:Int) (k:Int) (p:Bool):RT (Option (Int)):=
 .br (!Zh3 (Z1 u8 r m) k||Zh3 (bif p then Z1 u8 s m else s) k) (.br (Zh3 (Z1 u8 r m) k) (.br (decide (ZiT (Z1 u8 r m) k<0)||decide (ZiT (bif p then Z1 u8 s m else s) k>=0)&&decide (ZwR (ZiT (Z1 u8 r m) k) k>=ZwR (ZiT (bif p then Z1 u8 s m else s) k) k)) (Ls (-1)) (Ls (ZiT (Z1 u8 r m) k))) Ln) Ln
def ZD2 (r:Int) (m:Int) (s:Int) (k:Int) (p:Bool):Int:=getO ZTf.Df (Zne r m s k p).val
def ZsF (r:Int) (m:Int) (s:Int) (k:Int) (p:Bool):Bool:=okB (Zne r m s k p).val
def ZKW:En:=Zh ZD1 ZTf (λa=>some (ZsF a.1 a.2.1 a.2.2.1 a.2.2.2.1 a.2.2.2.2)) (λa=>ZD2 a.1 a.2.1 a.2.2.1 a.2.2.2.1 a.2.2.2.2)
theorem ZKV:Zb prog 344 ZKW:=
 pureP 8191 [(346,ZzQ),(381,ZKU)] [] _ _ ⟨ZwS,ZKT,Tv⟩ Tryz.func344 Tryz.call344 trivial
def ZS4:RT PICT:=
 .Lf ((0,false,false,false,false,0,0,false,false,false,false,false,0,0,0,0,7,0,0,false))
def ZU7:PICT:=(ZS4).val
def ZD9:En:=Zh ZwN ZT8 (λ_=>none) (λa=>ZU7)
theorem ZD8:Zb prog 99 ZD9:=
 pureQ 1 [] [] _ _ trivial Tryz.func99 Tryz.call99 trivial
abbrev ZK0:List Sh:=[Sh.agg Zcc]
def ZK1 (p:PICT):RT (Int):=
 .br p.2.1 (.Lf p.2.2.2.2.2.2.2.2.2.2.2.2.1) (.Lf p.2.2.2.2.2.2.2.2.2.2.2.2.2.1)
def ZGu (p:PICT):Int:=(ZK1 p).val
def ZK3:En:=Zh ZK0 ZMZ (λ_=>none) (λa=>ZGu a)
theorem ZD6:Zb prog 273 ZK3:=
 pureQ 7 [] [] _ _ trivial Tryz.func273 Tryz.call273 trivial
def Znm (p:PICT):RT (Option (Int)):=
 let x1:=p.2.2.2.2.2.2.2.2.2.2.2.2.2.2
 let x2:=x1.2
 let x3:=x2.1
 let x4:=x1.1
 let x5:=x2.2.1
 .br (ZsF (ZGu p) x3 x4 x5 p.2.2.2.2.2.2.2.2.2.1) (Ls (ZD2 (ZGu p) x3 x4 x5 p.2.2.2.2.2.2.2.2.2.1)) Ln
def Za3 (p:PICT):Int:=getO ZTf.Df (Znm p).val
def Zkd (p:PICT):Bool:=okB (Znm p).val
def ZsP:En:=Zh ZK0 ZTf (λa=>some (Zkd a)) (λa=>Za3 a)
theorem Znl:Zb prog 268 ZsP:=
 pureP 7 [(273,ZK3),(344,ZKW)] [] _ _ ⟨ZD6,ZKV,Tv⟩ Tryz.func268 Tryz.call268 trivial
def ZwV (p:PICT):RT (Option (Bool)):=
 .br (Zkd p) (Ls (decide (Za3 p>=0))) Ln
def ZU8 (p:PICT):Bool:=getO ZnL.Df (ZwV p).val
def ZK8 (p:PICT):Bool:=okB (ZwV p).val
def ZXV:En:=Zh ZK0 ZnL (λa=>some (ZK8 a)) (λa=>ZU8 a)
theorem ZQy:Zb prog 199 ZXV:=
 pureP 7 [(268,ZsP)] [] _ _ ⟨Znl,Tv⟩ Tryz.func199 Tryz.call199 trivial
abbrev Zni:List Sh:=[Sh.agg Zcc,So Ka]
def ZsN (p:PICT) (l:Int):RT PICT:=
 let x1:=p.2.2.2.2.2.2.2.2.2.2.2.2.2
 .Lf ((p.1,p.2.1,p.2.2.1,p.2.2.2.1,p.2.2.2.2.1,p.2.2.2.2.2.1,p.2.2.2.2.2.2.1,p.2.2.2.2.2.2.2.1,p.2.2.2.2.2.2.2.2.1,p.2.2.2.2.2.2.2.2.2.1,p.2.2.2.2.2.2.2.2.2.2.1,p.2.2.2.2.2.2.2.2.2.2.2.1,l,andI u8 (orI u8 x1.1 (Z1 u8 l p.2.2.2.2.2.2.2.2.2.2.2.2.1)) l,x1.2))
def ZzW (p:PICT) (l:Int):PICT:=(ZsN p l).val
def ZQx:En:=Zh Zni ZT8 (λ_=>none) (λa=>ZzW a.1 a.2)
theorem ZGw:Zb prog 198 ZQx:=
 pureQ 31 [] [] _ _ trivial Tryz.func198 Tryz.call198 trivial
abbrev ZD5:List Sh:=[Sh.agg Zcc,So Kc]
def ZsJ (p:PICT) (x:Int):RT (Option PICT):=
 let x1:=p.2.2.2.2.2.2.2.2.2.2.2.2.2
 let x2:=x1.2
 .br (decide (0<=x)) (.br (decide (0<=x)) (Ls ((p.1,p.2.1,p.2.2.1,p.2.2.2.1,p.2.2.2.2.1,p.2.2.2.2.2.1,p.2.2.2.2.2.2.1,p.2.2.2.2.2.2.2.1,p.2.2.2.2.2.2.2.2.1,p.2.2.2.2.2.2.2.2.2.1,p.2.2.2.2.2.2.2.2.2.2.1,p.2.2.2.2.2.2.2.2.2.2.2.1,p.2.2.2.2.2.2.2.2.2.2.2.2.1,Z1 u8 x1.1 (shlI u8 1 x),orI u8 x2.1 (shlI u8 1 x),x2.2))) Ln) Ln
def ZqS (p:PICT) (x:Int):PICT:=getO ZT8.Df (ZsJ p x).val
def Zkc (p:PICT) (x:Int):Bool:=okB (ZsJ p x).val
def ZzT:En:=Zh ZD5 ZT8 (λa=>some (Zkc a.1 a.2)) (λa=>ZqS a.1 a.2)
theorem ZwU:Zb prog 271 ZzT:=
 pureP 31 [] [] _ _ trivial Tryz.func271 Tryz.call271 trivial
def ZEb (p:PICT) (x:Int):RT (Option PICT):=
 let x1:=p.2.2.2.2.2.2.2.2.2.2.2.2.2
 let x2:=x1.2
 let x3:=x2.2
 let x4:=x3.2
 .br (decide (0<=x)) (Ls ((p.1,p.2.1,p.2.2.1,p.2.2.2.1,p.2.2.2.2.1,p.2.2.2.2.2.1,p.2.2.2.2.2.2.1,p.2.2.2.2.2.2.2.1,p.2.2.2.2.2.2.2.2.1,p.2.2.2.2.2.2.2.2.2.1,p.2.2.2.2.2.2.2.2.2.2.1,p.2.2.2.2.2.2.2.2.2.2.2.1,p.2.2.2.2.2.2.2.2.2.2.2.2.1,x1.1,Z1 u8 x2.1 (shlI u8 1 x),x3.1,bif p.2.2.2.2.2.2.2.2.1 then x else x4.1,x4.2))) Ln
def ZGx (p:PICT) (x:Int):PICT:=getO ZT8.Df (ZEb p x).val
def ZqT (p:PICT) (x:Int):Bool:=okB (ZEb p x).val
def ZLb:En:=Zh ZD5 ZT8 (λa=>some (ZqT a.1 a.2)) (λa=>ZGx a.1 a.2)
theorem ZEa:Zb prog 272 ZLb:=
 pureP 31 [] [] _ _ trivial Tryz.func272 Tryz.call272 trivial
def ZzZ (p:PICT) (v:Int):RT PICT:=
 let x1:=p.2.2.2.2.2.2.2.2.2.2.2.2.2
 let x2:=x1.2
 let x3:=x2.2
 let x4:=x3.1
 .Lf ((bif p.1==2 then bif p.2.2.2.1 then bif p.2.2.2.2.1 then 4 else 0 else 3 else bif p.1==3 then bif p.2.2.2.2.1 then 4 else 0 else bif p.1==4 then 0 else p.1,p.2.1,p.2.2.1,p.2.2.2.1,p.2.2.2.2.1,p.2.2.2.2.2.1,bif p.1==2 then v else p.2.2.2.2.2.2.1,bif p.1==2 then p.2.2.2.2.2.2.2.1 else bif p.1==3 then p.2.2.2.2.2.2.2.1 else bif p.1==4 then andI u8 v 2 !=0 else p.2.2.2.2.2.2.2.1,p.2.2.2.2.2.2.2.2.1,p.2.2.2.2.2.2.2.2.2.1,p.2.2.2.2.2.2.2.2.2.2.1,p.2.2.2.2.2.2.2.2.2.2.2.1,p.2.2.2.2.2.2.2.2.2.2.2.2.1,x1.1,x2.1,bif p.1==2 then x4 else bif p.1==3 then x4 else bif p.1==4 then x4 else v,x3.2))
def ZEe (p:PICT) (v:Int):PICT:=(ZzZ p v).val
def ZLd:En:=Zh Zni ZT8 (λ_=>none) (λa=>ZEe a.1 a.2)
theorem ZLc:Zb prog 274 ZLd:=
 pureQ 35655743 [] [] _ _ trivial Tryz.func274 Tryz.call274 trivial
def ZwW (p:PICT) (v:Int):RT (Option PICT):=
 let x1:=p.2.2.2.2.2.2.2.2.2.2.2.2.2
 let x2:=x1.2
 let x3:=x2.1
 let x4:=x2.2
 let x5:=x4.1
 let x6:Int:=bif p.2.2.2.2.2.2.2.2.2.1 then Z1 u8 x3 x5 else x3
 let x7:=x4.2
 let x8:=x7.1
 let x9:=bif shrI u8 v 5==1 then shrI u8 v 5==1 else shrI u8 v 5==5
 let x10:=ZiT x6 x8
 let x11:=decide (x10<0)
 let p1:=x11::(!x9)::(shrI u8 v 5==4)::(shrI u8 v 5==0)::[]
 let x12:= !shrI u8 v 5==3||decide (0<=i64.wrap (andI u8 v 7))
 let p2:=(!shrI u8 v 5==7)::(shrI u8 v 5==3)::(!x12)::x9::(shrI u8 v 5==4)::(shrI u8 v 5==0)::[]
 let x13:=Z1 u8 x3 (shlI u8 1 (i64.wrap (andI u8 v 7)))
 .br (Zh3 x6 x8) (.br (orR p1 (decide (0<=x10))) (.br (orR p2 (decide (0<=i64.wrap (andI u8 v 7)))) (.br (shrI u8 v 5==0||(shrI u8 v 5==4||(x9||x12))) (Ls ((p.1,p.2.1,p.2.2.1,p.2.2.2.1,p.2.2.2.2.1,p.2.2.2.2.2.1,p.2.2.2.2.2.2.1,p.2.2.2.2.2.2.2.1,!shrI u8 v 5==0&&(shrI u8 v 5==4||p.2.2.2.2.2.2.2.2.1),p.2.2.2.2.2.2.2.2.2.1,p.2.2.2.2.2.2.2.2.2.2.1,p.2.2.2.2.2.2.2.2.2.2.2.1,p.2.2.2.2.2.2.2.2.2.2.2.2.1,x1.1,bif shrI u8 v 5==0 then x3 else bif shrI u8 v 5==4 then x3 else bif x9 then bif x11 then x3 else Z1 u8 x3 (shlI u8 1 x10) else bif shrI u8 v 5==3 then x13 else bif shrI u8 v 5==7 then x13 else x3,x5,bif shrI u8 v 5==0 then x8 else bif shrI u8 v 5==4 then x8 else bif x9 then bif x11 then x8 else bif shrI u8 v 5==5 then x10 else x8 else bif shrI u8 v 5==3 then x8 else bif shrI u8 v 5==7 then i64.wrap (andI u8 v 7) else bif shrI u8 v 5==6 then i64.wrap (andI u8 v 7) else x8,x7.2))) Ln) Ln) Ln) Ln
def ZQA (p:PICT) (v:Int):PICT:=getO ZT8.Df (ZwW p v).val
def ZEf (p:PICT) (v:Int):Bool:=okB (ZwW p v).val
def ZS5:En:=Zh Zni ZT8 (λa=>some (ZEf a.1 a.2)) (λa=>ZQA a.1 a.2)
theorem ZQz:Zb prog 275 ZS5:=
 pureP 36929657684375896319 [(346,ZzQ)] [] _ _ ⟨ZwS,Tv⟩ Tryz.func275 Tryz.call275 trivial
abbrev Znf:List Sh:=[Sh.agg Zcc,So R.bool,So Ka]
def ZiU (p:PICT) (h:Bool) (v:Int):RT (Option PICT):=
 .br (h||(andI u8 v 16 !=0||(!andI u8 v 8==0||ZEf p v))) (.br (h) (Ls (ZEe p v)) (.br (andI u8 v 16 !=0) (Ls ((2,andI u8 v 8 !=0,andI u8 v 4 !=0,andI u8 v 2 !=0,andI u8 v 1 !=0,andI u8 v 224,0,false,false,false,false,false,p.2.2.2.2.2.2.2.2.2.2.2.2.1,0,0,0,7,0,0,false))) (.br (andI u8 v 8==0) (Ls (ZQA p v)) (Ls ((p.1,p.2.1,p.2.2.1,p.2.2.2.1,p.2.2.2.2.1,p.2.2.2.2.2.1,p.2.2.2.2.2.2.1,p.2.2.2.2.2.2.2.1,p.2.2.2.2.2.2.2.2.1,bif andI u8 v 64 !=0 then andI u8 v 32 !=0 else p.2.2.2.2.2.2.2.2.2.1,bif andI u8 v 2 !=0 then andI u8 v 1 !=0 else p.2.2.2.2.2.2.2.2.2.2.1,andI u8 v 4 !=0||p.2.2.2.2.2.2.2.2.2.2.2.1,p.2.2.2.2.2.2.2.2.2.2.2.2)))))) Ln
def ZzS (p:PICT) (h:Bool) (v:Int):PICT:=getO ZT8.Df (ZiU p h v).val
def ZsI (p:PICT) (h:Bool) (v:Int):Bool:=okB (ZiU p h v).val
def ZQw:En:=Zh Znf ZT8 (λa=>some (ZsI a.1 a.2.1 a.2.2)) (λa=>ZzS a.1 a.2.1 a.2.2)
theorem ZGt:Zb prog 207 ZQw:=
 pureP 4398046519807 [(99,ZD9),(274,ZLd),(275,ZS5)] [] _ _ ⟨ZD8,ZLc,ZQz,Tv⟩ Tryz.func207 Tryz.call207 trivial
abbrev ZsL:List Sh:=[Sh.agg Zcc,So R.bool]
def Znh (p:PICT) (h:Bool):RT (Option (PICT×Int)):=
 let x1:= !p.2.2.2.2.2.2.2.2.2.2.2.1
 let x2:PICT:=(p.1,p.2.1,p.2.2.1,p.2.2.2.1,p.2.2.2.2.1,p.2.2.2.2.2.1,p.2.2.2.2.2.2.1,p.2.2.2.2.2.2.2.1,p.2.2.2.2.2.2.2.2.1,p.2.2.2.2.2.2.2.2.2.1,p.2.2.2.2.2.2.2.2.2.2.1,false,p.2.2.2.2.2.2.2.2.2.2.2.2)
 let x3:=h||(x1||Zkd x2)
 let x4:= !x3
 let x5:=Za3 x2
 let x6:=decide (x5<0)
 let p1:=x6::x1::h::x4::[]
 let x7:=Zkc x2 x5
 let x8:=ZqS x2 x5
 let x9:=x8.2
 let x10:=x9.2
 let x11:=x10.2
 let x12:=x11.2
 let x13:=x12.2
 let x14:=x13.2
 let x15:=x14.2
 let x16:=x15.1
 let p2:=(!x16)::(!x7)::p1
 let x17:=p.2.2.2.2.2.2.2.2.2.2.2.2.2.2
 let x18:=ZGx x8 x5
 .br (orR p2 (ZqT x8 x5)) (.br (orR p1 x7) (.br (x3) (.br (h) (Ls ((p,x17.2.1))) (.br p.2.2.2.2.2.2.2.2.2.2.2.1 (.br (x6) (Ls ((x2,0))) (Ls (((R.sel Zcc x16 x18 x8),u8.wrap (128+u8.wrap x5))))) (.br p.2.2.2.2.2.2.2.2.2.2.1 (Ls ((p,x17.1))) (Ls ((p,ZGu p)))))) Ln) Ln) Ln
def ZK5 (p:PICT) (h:Bool):PICT×Int:=getO ZT5.Df (Znh p h).val
def ZzU (p:PICT) (h:Bool):Bool:=okB (Znh p h).val
def ZU6:En:=Zh ZsL ZT5 (λa=>some (ZzU a.1 a.2)) (λa=>ZK5 a.1 a.2)
theorem ZK4:Zb prog 205 ZU6:=
 pureP 8589938943 [(268,ZsP),(271,ZzT),(272,ZLb),(273,ZK3)] [] _ _ ⟨Znl,ZwU,ZEa,ZD6,Tv⟩ Tryz.func205 Tryz.call205 trivial
def ZwX (p:PICT):RT (Option (PICT×Int)):=
 let x1:=p.2.2.2.2.2.2.2.2.2.2.2.2.2
 let x2:=x1.2
 let x3:=x2.2
 let x4:=x3.2
 let x5:=x4.2
 let x6:=x5.1
 let x7:=x6==0
 let x8:= !x7
 let x9:=x8||Zkd p
 let x10:=p.2.2.2.2.2.2.2.2.2.2.2.2.1
 let x11:=x1.1
 let x12:=x2.1
 let x13:=x3.1
 let x14:=x4.1
 let x15:=x5.2
 let x16:=x15.1
 let x17:PICT:=(p.1,p.2.1,p.2.2.1,p.2.2.2.1,p.2.2.2.2.1,p.2.2.2.2.2.1,p.2.2.2.2.2.2.1,p.2.2.2.2.2.2.2.1,p.2.2.2.2.2.2.2.2.1,p.2.2.2.2.2.2.2.2.2.1,p.2.2.2.2.2.2.2.2.2.2.1,p.2.2.2.2.2.2.2.2.2.2.2.1,x10,x11,x12,x13,x14,x6,x16,decide (Za3 p<0))
 let x18:=ZqS x17 (Za3 p)
 let x19:=x18.2
 let x20:=x19.2
 let x21:=x20.2
 let x22:=x21.2
 let x23:=x22.2
 let x24:=x23.2
 let x25:=x24.2
 let x26:=x25.2
 let x27:=x26.2
 let x28:=x27.2
 let x29:=x28.2
 let x30:=x29.2
 let x31:=x30.2
 let x32:=x31.2
 let x33:=x32.2
 let x34:=x33.2
 let x35:PICT:=(p.1,p.2.1,p.2.2.1,p.2.2.2.1,p.2.2.2.2.1,p.2.2.2.2.2.1,p.2.2.2.2.2.2.1,p.2.2.2.2.2.2.2.1,p.2.2.2.2.2.2.2.2.1,p.2.2.2.2.2.2.2.2.2.1,p.2.2.2.2.2.2.2.2.2.2.1,p.2.2.2.2.2.2.2.2.2.2.2.1,x10,x11,x12,x13,x14,2,x15)
 let x36:=andI i64 x16 7
 let x37:=x15.2
 let x38:=p.2.2.2.2.2.2.2.1&& !x37
 let x39:PICT:=(p.1,p.2.1,p.2.2.1,p.2.2.2.1,p.2.2.2.2.1,p.2.2.2.2.2.1,p.2.2.2.2.2.2.1,p.2.2.2.2.2.2.2.1,p.2.2.2.2.2.2.2.2.1,p.2.2.2.2.2.2.2.2.2.1,p.2.2.2.2.2.2.2.2.2.2.1,p.2.2.2.2.2.2.2.2.2.2.2.1,x10,x11,x12,x13,x14,0,x15)
 let x40:=ZGx x39 x36
 let x41:=x40.2
 let x42:=x41.2
 let x43:=x42.2
 let x44:=x43.2
 let x45:=x44.2
 let x46:=x45.2
 let x47:Int:=bif x38 then x46.1 else p.2.2.2.2.2.2.1
 let x48:=x46.2
 let x49:=x48.2
 let x50:=x49.2
 let x51:=x50.2
 let x52:=x51.2
 let x53:=x52.2
 let x54:=x53.2
 let x55:=x54.2
 let x56:=x55.2
 let x57:=x56.2
 let x58:=x57.2
 let x59:=x58.2
 .br (!x9||(x8||(decide (Za3 p<0)||Zkc x17 (Za3 p)))) (.br (x9) (.br (x7) (Ls (((bif decide (Za3 p<0) then p.1 else x18.1,bif decide (Za3 p<0) then p.2.1 else x19.1,bif decide (Za3 p<0) then p.2.2.1 else x20.1,bif decide (Za3 p<0) then p.2.2.2.1 else x21.1,bif decide (Za3 p<0) then p.2.2.2.2.1 else x22.1,bif decide (Za3 p<0) then p.2.2.2.2.2.1 else x23.1,bif decide (Za3 p<0) then p.2.2.2.2.2.2.1 else x24.1,bif decide (Za3 p<0) then p.2.2.2.2.2.2.2.1 else x25.1,bif decide (Za3 p<0) then p.2.2.2.2.2.2.2.2.1 else x26.1,bif decide (Za3 p<0) then p.2.2.2.2.2.2.2.2.2.1 else x27.1,bif decide (Za3 p<0) then p.2.2.2.2.2.2.2.2.2.2.1 else x28.1,bif decide (Za3 p<0) then p.2.2.2.2.2.2.2.2.2.2.2.1 else x29.1,bif decide (Za3 p<0) then x10 else x30.1,bif decide (Za3 p<0) then x11 else x31.1,bif decide (Za3 p<0) then x12 else x32.1,bif decide (Za3 p<0) then x13 else x33.1,bif decide (Za3 p<0) then x14 else x34.1,1,bif decide (Za3 p<0) then 7 else Za3 p,bif decide (Za3 p<0) then decide (Za3 p<0) else x34.2.2.2),205))) (.br (x6==1) (.br p.2.2.1 (Ls ((x35,u8.wrap (andI u8 p.2.2.2.2.2.1 224+u8.wrap (i64.wrap (4*x36)))))) (Ls ((x35,u8.wrap (andI u8 p.2.2.2.2.2.1 192+u8.wrap (i64.wrap (8*x36))))))) (.br (!x38||ZqT x39 x36) (Ls (((bif x38 then x40.1 else p.1,bif x38 then x41.1 else p.2.1,bif x38 then x42.1 else p.2.2.1,bif x38 then x43.1 else p.2.2.2.1,bif x38 then x44.1 else p.2.2.2.2.1,bif x38 then x45.1 else p.2.2.2.2.2.1,x47,bif x38 then x48.1 else p.2.2.2.2.2.2.2.1,bif x38 then x49.1 else p.2.2.2.2.2.2.2.2.1,bif x38 then x50.1 else p.2.2.2.2.2.2.2.2.2.1,bif x38 then x51.1 else p.2.2.2.2.2.2.2.2.2.2.1,bif x38 then x52.1 else p.2.2.2.2.2.2.2.2.2.2.2.1,bif x38 then x53.1 else x10,bif x38 then x54.1 else x11,bif x38 then x55.1 else x12,bif x38 then x56.1 else x13,bif x38 then x57.1 else x14,bif x38 then x58.1 else 0,bif x38 then x59.1 else x16,bif x38 then x59.2 else x37),x47))) Ln))) Ln) Ln
def ZU9 (p:PICT):PICT×Int:=getO ZT5.Df (ZwX p).val
def ZLf (p:PICT):Bool:=okB (ZwX p).val
def ZXW:En:=Zh ZK0 ZT5 (λa=>some (ZLf a)) (λa=>ZU9 a)
theorem ZQB:Zb prog 203 ZXW:=
 pureP 134219839 [(268,ZsP),(271,ZzT),(272,ZLb)] [] _ _ ⟨Znl,ZwU,ZEa,Tv⟩ Tryz.func203 Tryz.call203 trivial
abbrev ZCs:List Sh:=[Sh.agg (R.Pq Kb (R.Pq Ka Kc))]
def ZON (d:QT3):RT (Bool):=
 .Lf (decide (d.2.2>0))
def ZSh (d:QT3):Bool:=(ZON d).val
def ZTM:En:=Zh ZCs ZnL (λ_=>none) (λa=>ZSh a)
theorem ZFL:Zb prog 141 ZTM:=
 pureQ 7 [] [] _ _ trivial Tryz.func141 Tryz.call141 trivial
abbrev ZuS:List Sh:=[Sh.agg (R.Pq Kb (R.Pq Ka Kc)),So Kc]
def ZCu (d:QT3) (r:Int):RT (Int):=
 .br (andI i64 r 3==0) (.Lf (u8.wrap d.1)) (.br (andI i64 r 3==1) (.Lf (u8.wrap (shrI u16 d.1 8))) (.br (andI i64 r 3==2) (.Lf d.2.1) (.Lf (u8.wrap d.2.2))))
def ZFM (d:QT3) (r:Int):Int:=(ZCu d r).val
def ZWO:En:=Zh ZuS ZMZ (λ_=>none) (λa=>ZFM a.1 a.2)
theorem ZOO:Zb prog 206 ZWO:=
 pureQ 266399 [] [] _ _ trivial Tryz.func206 Tryz.call206 trivial
abbrev ZpB:List Sh:=[Sh.agg (R.Pq Kb (R.Pq Ka Kc)),So Kc,So Ka]
abbrev ZpC:Rs:=Rs.one (Sh.agg (R.Pq Kb (R.Pq Ka Kc)))
def ZuR (d:QT3) (r:Int) (v:Int):RT (QT3):=
 .Lf ((bif andI i64 r 3==0 then orI u16 (andI u16 d.1 65280) (u16.wrap v) else bif andI i64 r 3==1 then orI u16 (andI u16 d.1 255) (shlI u16 (u16.wrap v) 8) else d.1,bif andI i64 r 3==0 then d.2.1 else bif andI i64 r 3==1 then d.2.1 else bif andI i64 r 3==2 then v else d.2.1,bif andI i64 r 3==0 then d.2.2 else bif andI i64 r 3==1 then d.2.2 else bif andI i64 r 3==2 then d.2.2 else bif andI i64 r 3==3 then i64.wrap v else d.2.2))
def ZCo (d:QT3) (r:Int) (v:Int):QT3:=(ZuR d r v).val
def ZSf:En:=Zh ZpB ZpC (λ_=>none) (λa=>ZCo a.1 a.2.1 a.2.2)
theorem ZIi:Zb prog 208 ZSf:=
 pureQ 4563665535 [] [] _ _ trivial Tryz.func208 Tryz.call208 trivial
abbrev ZCq:Rs:=Rs.tup [Sh.agg (R.Pq Kb (R.Pq Ka Kc)),Sh.agg (R.Pq Kb Ka),So R.bool]
def ZOL (d:QT3):RT ((QT3)×(Int×Int)×Bool):=
 .br (!ZSh d) (.Lf (((0,0,0),(0,0),false))) (.Lf (((u16.wrap (d.1+1),d.2.1,i64.wrap (d.2.2-1)),(d.1,d.2.1),true)))
def ZWN (d:QT3):(QT3)×(Int×Int)×Bool:=(ZOL d).val
def ZYM:En:=Zh ZCs ZCq (λ_=>none) (λa=>ZWN a)
theorem ZSg:Zb prog 142 ZYM:=
 pureQ 63 [(141,ZTM)] [] _ _ ⟨ZFL,Tv⟩ Tryz.func142 Tryz.call142 trivial
def mapG {α β:Type} (φ:α->β):Go1 α->Go1 β
 | .cont a=>.cont (φ a)
 | .brk a=>.brk (φ a)
 | .ret a=>.ret (φ a)
theorem ZDe {α β:Type} (φ:α->β) {f:α->Option (Go1 α)} {g:β->Option (Go1 β)} (h:∀a,g (φ a)=(f a).map (mapG φ)):∀(n:Nat) (a:α),runL g n (φ a)=(runL f n a).map λr=>(r.1,φ r.2)
 |0,a=>rfl
 |n+1,a=>by
  unfold runL;rw[h a];cases hf:f a with
  |none=>rfl
  |some r=>cases r with
   |cont a'=>exact ZDe φ h n a'
   |brk a'=>rfl
   |ret a'=>rfl
theorem ZDg {β:Type} (φ:α->β) {f:α->RT (Option (Go1 α))} {g:β->RT (Option (Go1 β))} (h:∀a,(g (φ a)).val=((f a).val).map (mapG φ)) (fl:Bool) (n:Nat) (a:α):
  runF fl g (λ_=>n) (φ a)=(runF fl f (λ_=>n) a).map λr=>(r.1,φ r.2):=by
 unfold runF;rw[ZDe φ h n a];cases runL (λa=>(f a).val) n a with
 |none=>rfl
 |some r=>obtain⟨b,d⟩:=r;cases fl<;>cases b<;>rfl
theorem ZH9:(List.range 256).all (λs=>(List.range 8).all λk=>(Zh2 (s:Int) (k:Int)).val==some (Zdt (s:Int) (k:Int))&&Zir (s:Int) (k:Int))=true:=by kernel_rfl
theorem ZyL (k:Int):andI .i64 (andI .i64 k 7) 7=andI .i64 k 7:=by
 obtain⟨h0,h1⟩:=and7 k;generalize andI .i64 k 7=v at*;have:v=0\/v=1\/v=2\/v=3\/v=4\/v=5\/v=6\/v=7:=by omega
 rcases this with rfl|rfl|rfl|rfl|rfl|rfl|rfl|rfl<;>decide
def phiK (a:QT23):QT23:=(a.1,andI .i64 a.2.1 7,a.2.2)
theorem ZQt (s k:Int):(Zh2 s k).val=(Zh2 s (andI .i64 k 7)).val:=by
 have h:=ZDg phiK (f:=Zdv) (g:=Zdv) (by
  rintro⟨s,k,r,i,u⟩;simp only[Zdv,phiK,RT.val,ZyL]
  cases h3:(andI u8 (shrI u8 s (andI i64 (i64.wrap (andI i64 k 7+i)) 7)) 1==1)<;>by_cases h1:i<=8<;>by_cases h2:0<=andI i64 (i64.wrap (andI i64 k 7+i)) 7<;>simp[h1,h2,mapG,phiK]) true 9 (s,k,0,1,())
 have h':runF true Zdv (λ_=>9) (s,andI .i64 k 7,0,1,())=(runF true Zdv (λ_=>9) (s,k,0,1,())).map λr=>(r.1,phiK r.2):=h
 simp only[Zh2,RT.val,h'];cases runF true Zdv (λ_=>9) (s,k,0,1,()) with
 |none=>rfl
 |some r=>obtain⟨b,d⟩:=r;cases b<;>rfl
theorem ZT6 (l k:Int):Zda l (andI .i64 k 7)=Zda l k:=by simp only[Zda,ZIP,RT.val,ZyL]
theorem ZUb (s k:Int):(Zmu s k).val=(Zmu s (andI .i64 k 7)).val:=by
 have h:=ZDg phiK (f:=Zdp) (g:=Zdp) (by
  rintro⟨s,k,r,i,u⟩;simp only[Zdp,phiK,RT.val,ZT6]
  cases h3:vOnC s i<;>by_cases h1:i<8<;>by_cases q1:r<0<;>by_cases q2:Zda i k<Zda r k<;>cases vOn s i<;>simp[h1,q1,q2,mapG,phiK]) false 9 (s,k,-1,0,())
 have h':runF false Zdp (λ_=>9) (s,andI .i64 k 7,-1,0,())=(runF false Zdp (λ_=>9) (s,k,-1,0,())).map λr=>(r.1,phiK r.2):=h
 simp only[Zmu,RT.val,h'];cases runF false Zdp (λ_=>9) (s,k,-1,0,()) with
 |none=>rfl
 |some r=>rfl
theorem ZCc (s k:Int) (hs:inR .u8 s):Zh3 s k=true/\Zir s k=true/\ZiT s k=Zdt s k:=by
 obtain⟨h0,h1⟩:=and7 k;rw[ZhI] at hs;obtain⟨a,rfl⟩:∃a:Nat,s=(a:Int):=⟨s.toNat,by omega⟩;obtain⟨b,hb⟩:∃b:Nat,andI .i64 k 7=(b:Int):=⟨(andI .i64 k 7).toNat,by omega⟩;have key:=YW.1 (YW.1 ZH9 a (by simp;omega)) b (by simp;omega);simp only[Yc,Yaw] at key;obtain⟨k1,k2⟩:=key;have e1:=ZQt (a:Int) k;have e2:=ZUb (a:Int) k;rw[hb] at e1 e2;rw[k1] at e1;have e3:Zdt (a:Int) k=Zdt (a:Int) (b:Int):=by simp only[Zdt,e2]
 have e4:Zir (a:Int) k=true:=by simp only[Zir,e2];exact k2
 refine⟨by simp only[Zh3,e1,okB],e4,?_⟩;simp only[ZiT,e1,getO,e3]
theorem ZUO (l k:Int):ZwR l k=Zda l k:=by
 simp only[ZwR,ZzO,Zda,ZIP,RT.val];obtain⟨a0,a1⟩:=and7 l;obtain⟨b0,b1⟩:=and7 k;generalize andI .i64 l 7=a at*;generalize andI .i64 k 7=b at*;obtain⟨x,rfl⟩:∃x:Nat,a=(x:Int):=⟨a.toNat,by omega⟩;obtain⟨y,rfl⟩:∃y:Nat,b=(y:Int):=⟨b.toNat,by omega⟩;have key:(List.range 8).all (λx=>(List.range 8).all λy=>andI i64 (i64.wrap (i64.wrap ((x:Int)-(y:Int))+7)) 7==andI i64 (i64.wrap (i64.wrap ((x:Int)-(y:Int))+15)) 7)=true:=by kernel_rfl
 have:=YW.1 (YW.1 key x (by simp;omega)) y (by simp;omega);simpa using this
theorem ZD4 (r m s k:Int) (p:Bool) (hs:inR .u8 s):ZsF r m s k p=true/\Zvk r m s k p=true/\ZD2 r m s k p=ZF2 r m s k p:=by
 obtain⟨a1,a2,a3⟩:=ZCc (Z1 u8 r m) k (Zar _ _);have hb:inR .u8 (ZcK m s p):=by
  cases p
  ·simpa [ZcK,Zmw,RT.val] using hs
  ·have:ZcK m s true=Z1 u8 s m:=by simp[ZcK,Zmw,RT.val]
   rw[this];exact Zar _ _
 have eb:(bif p then Z1 u8 s m else s)=ZcK m s p:=by cases p<;>simp[ZcK,Zmw,RT.val]
 obtain⟨b1,b2,b3⟩:=ZCc (ZcK m s p) k hb;have h1:(Zne r m s k p).val=(Zmt r m s k p).val:=by
  simp only[Zne,Zmt,RT.val,eb,a1,a2,b1,b2,a3,b3,ZUO,Ya,Yj];generalize Zdt (Z1 u8 r m) k=x;generalize Zdt (ZcK m s p) k=y;by_cases q1:x<0
  ·have:¬x>=0:=by omega
   simp[q1,this]
  ·have q1':x>=0:=by omega
   by_cases q2:y<0
   ·have:¬y>=0:=by omega
    simp[q1,q1',q2,this]
   ·have q2':y>=0:=by omega
    by_cases q3:Zda x k<Zda y k
    ·have:¬Zda x k>=Zda y k:=by omega
     simp[q1,q1',q2,q2',q3,this]
    ·have q3':Zda x k>=Zda y k:=by omega
     simp[q1,q1',q2,q2',q3,q3']
 have h2:Zvk r m s k p=true:=by simp only[Zvk,Zmt,RT.val,a2,b2,Ya];cases (decide (Zdt (Z1 u8 r m) k>=0)&&(decide (Zdt (ZcK m s p) k<0)||decide (Zda (Zdt (Z1 u8 r m) k) k<Zda (Zdt (ZcK m s p) k) k)))<;>rfl
 refine⟨?_,h2,by simp only[ZD2,ZF2,h1]⟩;simp only[ZsF,h1];exact h2
theorem ZJ6 (p:PICT):ZGu p=vReq p:=by simp only[ZGu,ZK1,vReq,ZW6,RT.val]
theorem ZQd (p:PICT) (l:Int):ZzW p l=ZkY p l:=by simp only[ZzW,ZsN,ZkY,ZIQ,RT.val]
theorem ZLo (p:PICT) (hs:inR .u8 p.2.2.2.2.2.2.2.2.2.2.2.2.2.2.1):Zkd p=true/\ZrF p=true/\Za3 p=vPck p:=by
 obtain⟨h1,h2,h3⟩:=ZD4 (vReq p) p.2.2.2.2.2.2.2.2.2.2.2.2.2.2.2.1 p.2.2.2.2.2.2.2.2.2.2.2.2.2.2.1 p.2.2.2.2.2.2.2.2.2.2.2.2.2.2.2.2.1 p.2.2.2.2.2.2.2.2.2.1 hs;have e1:(Znm p).val=some (ZF2 (vReq p) p.2.2.2.2.2.2.2.2.2.2.2.2.2.2.2.1 p.2.2.2.2.2.2.2.2.2.2.2.2.2.2.1 p.2.2.2.2.2.2.2.2.2.2.2.2.2.2.2.2.1 p.2.2.2.2.2.2.2.2.2.1):=by simp only[Znm,RT.val,ZJ6,h1,h3,Ya]
 have e2:(ZF3 p).val=some (ZF2 (vReq p) p.2.2.2.2.2.2.2.2.2.2.2.2.2.2.2.1 p.2.2.2.2.2.2.2.2.2.2.2.2.2.2.1 p.2.2.2.2.2.2.2.2.2.2.2.2.2.2.2.2.1 p.2.2.2.2.2.2.2.2.2.1):=by simp only[ZF3,RT.val,h2,Ya]
 exact⟨by simp only[Zkd,e1,okB],by simp only[ZrF,e2,okB],by simp only[Za3,vPck,e1,e2]⟩
theorem ZTD (p:PICT) (hs:inR .u8 p.2.2.2.2.2.2.2.2.2.2.2.2.2.2.1):ZK8 p=true/\ZW9 p=true/\ZU8 p=vInt p:=by
 obtain⟨h1,h2,h3⟩:=ZD4 (vReq p) p.2.2.2.2.2.2.2.2.2.2.2.2.2.2.2.1 p.2.2.2.2.2.2.2.2.2.2.2.2.2.2.1 p.2.2.2.2.2.2.2.2.2.2.2.2.2.2.2.2.1 p.2.2.2.2.2.2.2.2.2.1 hs;obtain⟨g1,g2,g3⟩:=ZLo p hs;have e2:(ZPz p).val=some (decide (vPck p>=0)):=by simp only[ZPz,RT.val,g2,Ya]
 have e1:(ZwV p).val=some (decide (vPck p>=0)):=by simp only[ZwV,RT.val,g1,g3,ZJ6,h1,h3,Ya]
 exact⟨by simp only[ZK8,e1,okB],by simp only[ZW9,e2,okB],by simp only[ZU8,vInt,e1,e2]⟩
theorem ZOI (d):ZSh d=Zac d:=by simp only[ZSh,ZON,Zac,Zvi,RT.val]
theorem ZOH (d:QT3) (r v:Int):ZCo d r v=ZhR d r v:=by
 obtain⟨h0,h3⟩:=and3 r;simp only[ZCo,ZuR,ZhR,ZCM,RT.val];generalize andI .i64 r 3=q at*;have:q=0\/q=1\/q=2\/q=3:=by omega
 rcases this with rfl|rfl|rfl|rfl<;>simp
theorem ZWM (d):ZWN d=ZbF d:=by simp only[ZWN,ZOL,ZbF,ZjR,RT.val,ZOI]
theorem ZSd (d:QT3) (r:Int):ZIO d r=true/\ZFM d r=Zms d r:=by
 obtain⟨h0,h3⟩:=and3 r;have hv:(ZrE d r).val=some (ZFM d r):=by
  simp only[ZrE,ZFM,ZCu,RT.val];generalize andI .i64 r 3=q at*;have:q=0\/q=1\/q=2\/q=3:=by omega
  rcases this with rfl|rfl|rfl|rfl<;>simp[iN,Le]
 exact⟨by simp only[ZIO,hv,okB],by simp only[Zms,hv,getO]⟩
theorem ZPP (p:PICT) (x:Int):ZsJ p x=Zvh p x:=rfl
theorem ZJv (p:PICT) (x:Int):ZqS p x=ZF1 p x/\Zkc p x=Zhz p x:=by simp only[ZqS,ZF1,Zkc,Zhz,ZPP];exact⟨trivial,Tv⟩
theorem ZWF (p:PICT) (x:Int):ZEb p x=ZCQ p x:=rfl
theorem ZTL (p:PICT) (x:Int):ZGx p x=ZIR p x/\ZqT p x=Zis p x:=by simp only[ZGx,ZIR,ZqT,Zis,ZWF];exact⟨trivial,Tv⟩
theorem ZWR (p:PICT) (v:Int):ZEe p v=ZrH p v:=by simp only[ZEe,ZzZ,ZrH,Zvn,RT.val];cases p.2.2.2.1<;>rfl
theorem ZSP (p:PICT) (x:Int):ZqS p x=ZF1 p x:=(ZJv p x).1
theorem ZSO (p:PICT) (x:Int):Zkc p x=Zhz p x:=(ZJv p x).2
theorem ZYH (p:PICT) (x:Int):ZGx p x=ZIR p x:=(ZTL p x).1
theorem ZYG (p:PICT) (x:Int):ZqT p x=Zis p x:=(ZTL p x).2
theorem ZW0 (p:PICT) (hs:inR .u8 p.2.2.2.2.2.2.2.2.2.2.2.2.2.2.1):(ZwX p).val=(ZIS p).val:=by
 obtain⟨g1,g2,g3⟩:=ZLo p hs;have hd:decide (vPck p>=0)= !decide (vPck p<0):=by
  by_cases h:vPck p<0
  ·have:¬vPck p>=0:=by omega
   simp[h,this]
  ·have:vPck p>=0:=by omega
   simp[h,this]
 simp only[ZwX,ZIS,RT.val,g1,g2,g3,ZSP,ZSO,ZYH,ZYG,hd];cases h:decide (vPck p<0)
 ·have h0:decide (0<=vPck p)=true:=by simp at h|-;omega
  simp only[ZF1,Zhz,Zvh,RT.val,h0,getO,okB,Yf,Yl,Ya,Yb,Yv,Yi]
 ·simp only[Yf,Yl,Ya,Yb,Yv,Yi]
theorem ZTY (p:PICT) (hs:inR .u8 p.2.2.2.2.2.2.2.2.2.2.2.2.2.2.1):ZU9 p=vAck p/\ZLf p=ZPA p:=by simp only[ZU9,vAck,ZLf,ZPA,ZW0 p hs];exact⟨trivial,Tv⟩
theorem ZYt (x:Int):decide (x>=0)= !decide (x<0):=by by_cases h:x<0<;>simp[h]<;>omega
theorem ZYv (x:Int):decide (0<=x)= !decide (x<0):=by by_cases h:x<0<;>simp[h]<;>omega
theorem ZRs (p:PICT) (v:Int) (hs:inR .u8 p.2.2.2.2.2.2.2.2.2.2.2.2.2.2.1):(ZwW p v).val=(Zvl p v).val:=by
 have eb:(bif p.2.2.2.2.2.2.2.2.2.1 then Z1 u8 p.2.2.2.2.2.2.2.2.2.2.2.2.2.2.1 p.2.2.2.2.2.2.2.2.2.2.2.2.2.2.2.1 else p.2.2.2.2.2.2.2.2.2.2.2.2.2.2.1)=ZcK p.2.2.2.2.2.2.2.2.2.2.2.2.2.2.2.1 p.2.2.2.2.2.2.2.2.2.2.2.2.2.2.1 p.2.2.2.2.2.2.2.2.2.1:=by cases p.2.2.2.2.2.2.2.2.2.1<;>simp[ZcK,Zmw,RT.val]
 have hb:inR .u8 (ZcK p.2.2.2.2.2.2.2.2.2.2.2.2.2.2.2.1 p.2.2.2.2.2.2.2.2.2.2.2.2.2.2.1 p.2.2.2.2.2.2.2.2.2.1):=by
  rw[<-eb];cases p.2.2.2.2.2.2.2.2.2.1
  ·exact hs
  ·exact Zar _ _
 obtain⟨h1,h2,h3⟩:=ZCc _ p.2.2.2.2.2.2.2.2.2.2.2.2.2.2.2.2.1 hb;have h4:decide (0<=IntKind.wrap .i64 (andI .u8 v 7))=true:=by have:=ZYU v;rw[wrap_i64 _ (by omega) (by omega)];exact Yz this.1
 simp only[ZwW,Zvl,RT.val,eb,h1,h2,h3,h4,ZYt,ZYv,ZcQ,ZbO,Yj,Yf,YaM,Bool.not_not,Yw,Yi,Ya,Yb];generalize shrI u8 v 5=w;generalize Zdt _ _=t;by_cases w0:w=0
 ·subst w0;rfl
 by_cases w1:w=1
 ·subst w1;cases decide (t<0)<;>rfl
 by_cases w3:w=3
 ·subst w3;rfl
 by_cases w4:w=4
 ·subst w4;rfl
 by_cases w5:w=5
 ·subst w5;cases decide (t<0)<;>rfl
 by_cases w6:w=6
 ·subst w6;rfl
 by_cases w7:w=7
 ·subst w7;rfl
 have e0:(w==0)=false:=by simpa using w0
 have e1:(w==1)=false:=by simpa using w1
 have e3:(w==3)=false:=by simpa using w3
 have e4:(w==4)=false:=by simpa using w4
 have e5:(w==5)=false:=by simpa using w5
 have e6:(w==6)=false:=by simpa using w6
 have e7:(w==7)=false:=by simpa using w7
 rw[e0,e1,e3,e4,e5,e6,e7];rfl
theorem ZV4 (p:PICT) (v:Int) (hs:inR .u8 p.2.2.2.2.2.2.2.2.2.2.2.2.2.2.1):ZQA p v=ZT9 p v/\ZEf p v=Zvm p v:=by simp only[ZQA,ZT9,ZEf,Zvm,ZRs p v hs];exact⟨trivial,Tv⟩
theorem ZIB (p:PICT) (h:Bool) (v:Int) (hs:inR .u8 p.2.2.2.2.2.2.2.2.2.2.2.2.2.2.1):(ZiU p h v).val=(Zmq p h v).val:=by obtain⟨h1,h2⟩:=ZV4 p v hs;have hf:Zmv p v=(2,andI u8 v 8 !=0,andI u8 v 4 !=0,andI u8 v 2 !=0,andI u8 v 1 !=0,andI u8 v 224,0,false,false,false,false,false,p.2.2.2.2.2.2.2.2.2.2.2.2.1,0,0,0,7,0,0,false):=rfl;simp only[ZiU,Zmq,RT.val,h1,h2,hf,ZWR,Bool.or_comm (andI u8 v 4 !=0)]
theorem ZCF (p:PICT) (h:Bool) (v:Int) (hs:inR .u8 p.2.2.2.2.2.2.2.2.2.2.2.2.2.2.1):ZzS p h v=Zmr p h v/\ZsI p h v=ZrD p h v:=by simp only[ZzS,Zmr,ZsI,ZrD,ZIB p h v hs];exact⟨trivial,Tv⟩
def ZrI (p:PICT):PICT:=(p.1,p.2.1,p.2.2.1,p.2.2.2.1,p.2.2.2.2.1,p.2.2.2.2.2.1,p.2.2.2.2.2.2.1,p.2.2.2.2.2.2.2.1,p.2.2.2.2.2.2.2.2.1,p.2.2.2.2.2.2.2.2.2.1,p.2.2.2.2.2.2.2.2.2.2.1,false,p.2.2.2.2.2.2.2.2.2.2.2.2)
theorem Zqg (p:PICT):vPck (ZrI p)=vPck p/\ZrF (ZrI p)=ZrF p:=⟨rfl,rfl⟩
theorem ZQv (x:Int) (h0: -1<=x) (h1:x<=7):IntKind.wrap .u8 (128+IntKind.wrap .u8 x)=IntKind.wrap .u8 (IntKind.wrap .i64 (128+x)):=by
 have:x= -1\/x=0\/x=1\/x=2\/x=3\/x=4\/x=5\/x=6\/x=7:=by omega
 rcases this with rfl|rfl|rfl|rfl|rfl|rfl|rfl|rfl|rfl<;>decide
theorem ZQb (p:PICT) (h:Bool) (hs:inR .u8 p.2.2.2.2.2.2.2.2.2.2.2.2.2.2.1):(Znh p h).val=(Zvj p h).val:=by obtain⟨g1,g2,g3⟩:=ZLo (ZrI p) hs;rw[(Zqg p).1] at g3;rw[(Zqg p).2] at g2;obtain⟨_,a1,a2⟩:=ZyV p;have hx:(p.1,p.2.1,p.2.2.1,p.2.2.2.1,p.2.2.2.2.1,p.2.2.2.2.2.1,p.2.2.2.2.2.2.1,p.2.2.2.2.2.2.2.1,p.2.2.2.2.2.2.2.2.1,p.2.2.2.2.2.2.2.2.2.1,p.2.2.2.2.2.2.2.2.2.2.1,false,p.2.2.2.2.2.2.2.2.2.2.2.2)=ZrI p:=rfl;simp only[Znh,Zvj,RT.val,hx,g1,g2,g3,ZSP,ZSO,ZYH,ZYG,ZJ6,ZQv _ a1 a2,ZcQ,ZbO,Yj,Yf,Yi]
theorem ZJ9 (p:PICT) (h:Bool) (hs:inR .u8 p.2.2.2.2.2.2.2.2.2.2.2.2.2.2.1):ZK5 p h=ZpX p h/\ZzU p h=ZCO p h:=by simp only[ZK5,ZpX,ZzU,ZCO,ZQb p h hs];exact⟨trivial,Tv⟩
theorem Zla {p:PICT} (h:okHL ZK0 p):inR .u8 p.2.2.2.2.2.2.2.2.2.2.2.2.2.2.1:=h.2.2.2.2.2.2.2.2.2.2.2.2.2.2.1
def ZzX:En:=Zh ZK0 ZnL (λ_=>none) (λa=>vInt a)
theorem ZK9:Zb prog 199 ZzX:=ZQy.tot (λa h=>by have:=(ZTD a (Zla h)).1;simp[this]) (λa h=>(ZTD a (Zla h)).2.2)
def Znk:En:=Zh Zni ZT8 (λ_=>none) (λa=>ZkY a.1 a.2)
theorem ZzV:Zb prog 198 Znk:=ZGw.tot (λa h=>by simp) (λa h=>ZQd _ _)
def Zng:En:=Zh Znf ZT8 (λ_=>none) (λa=>Zmr a.1 a.2.1 a.2.2)
theorem ZzR:Zb prog 207 Zng:=ZGt.tot (λa h=>by have h1:=(ZCF a.1 a.2.1 a.2.2 (Zla h.1)).2;have h2:=ZIN a.1 a.2.1 a.2.2;rw[h2] at h1;simp[h1]) (λa h=>(ZCF a.1 a.2.1 a.2.2 (Zla h.1)).1)
def ZsM:En:=Zh ZsL ZT5 (λ_=>none) (λa=>ZpX a.1 a.2)
theorem ZGv:Zb prog 205 ZsM:=ZK4.tot (λa h=>by have h1:=(ZJ9 a.1 a.2 (Zla h.1)).2;have h2:=ZPw a.1 a.2;rw[h2] at h1;simp[h1]) (λa h=>(ZJ9 a.1 a.2 (Zla h.1)).1)
def Zz2:En:=Zh ZK0 ZT5 (λ_=>none) (λa=>vAck a)
theorem ZLg:Zb prog 203 Zz2:=ZQB.tot (λa h=>by have h1:=(ZTY a (Zla h)).2;have h2:=ZUf a;rw[h2] at h1;simp[h1]) (λa h=>(ZTY a (Zla h)).1)
def ZpE:En:=Zh ZCs ZnL (λ_=>none) (λa=>Zac a)
theorem Zyw:Zb prog 141 ZpE:=ZFL.tot (λa h=>by simp) (λa h=>ZOI _)
def ZuU:En:=Zh ZuS ZMZ (λ_=>none) (λa=>Zms a.1 a.2)
theorem ZIj:Zb prog 206 ZuU:=ZOO.tot (λa h=>by simp) (λa h=>(ZSd _ _).2)
def ZpD:En:=Zh ZpB ZpC (λ_=>none) (λa=>ZhR a.1 a.2.1 a.2.2)
theorem ZCn:Zb prog 208 ZpD:=ZIi.tot (λa h=>by simp) (λa h=>ZOH _ _ _)
def ZCr:En:=Zh ZCs ZCq (λ_=>none) (λa=>ZbF a)
theorem ZOM:Zb prog 142 ZCr:=ZSg.tot (λa h=>by simp) (λa h=>ZWM _)
def ZuY:En:=Zh [.one (.sl (R.Pq Kb Ka))] (.one (.one (.sl (R.Pq Kb Ka)))) (λl=>some (Nat.ble l.length most)) (λl=>l)
theorem ZIk:Zb prog 98 ZuY:=
 ZRt (P:=prog) (n:=15) (k:=8) (l:=[]) (ol:=[]) trivial Tryz.func98 rfl (by kernel_rfl) Tryz.call98 trivial (r:=R.Pq (R.int u16) (R.int u8)) (rs:=.one (.one (.sl (R.Pq (R.int u16) (R.int u8))))) (pre:=λl=>Nat.ble l.length most) (F:=λl=>l) (by kernel_rfl)
  (λl h=>by
   have e:(evOf (envX prog [] [] 15 8) Tryz.f98 (.one (.one (.sl (R.Pq (R.int u16) (R.int u8))))) [.w (.one (.lst (R.Pq (R.int u16) (R.int u8)) false false true l))]).val=cond (Nat.ble ([]++l).length most) (some ([]++l)) none:=by kernel_rfl
   rw[e,List.nil_append,h];rfl)
abbrev ZyD:List Sh:=[Sh.agg (R.Pq Kc (R.Pq rcRG (R.Pq Kc (R.Pq Ka (R.Pq Ka (R.Pq R.bool rcCE))))))]
def ZjI (b:BRDT):RT (Option (Int)):=
 .br (b.1 !=1&&b.1 !=2) (Ls (1)) (.br (smG b.2.1) (.br (ZbL b.2.1 !=0) (Ls (ZbL b.2.1)) (.br (decide (b.2.2.1<0)||(decide (b.2.2.1>100)||smC b.2.2.2.2.2.2)) (.br (decide (b.2.2.1<0)||(decide (b.2.2.1>100)|| !vldB b.2.2.2.2.2.2)) (Ls (1)) (Ls (0))) Ln)) Ln)
def Zig (b:BRDT):Int:=getO ZTf.Df (ZjI b).val
def ZjJ (b:BRDT):Bool:=okB (ZjI b).val
def Zu2:En:=Zh ZyD ZTf (λa=>some (ZjJ a)) (λa=>Zig a)
theorem ZIn:Zb Tryz.prog 50 Zu2:=
 pureP 15 [(102,Zw5),(103,ZFe)] [] _ _ ⟨ZAe,ZHY,Tv⟩ Tryz.func50 Tryz.call50 trivial
