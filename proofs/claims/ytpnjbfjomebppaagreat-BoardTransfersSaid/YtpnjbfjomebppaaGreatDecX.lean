import Derived.Test.YtpnjbfjomebppaaGreatSysB
open Go.IntKind (u8 u16 i64)
open Go Go.S3 Go.Proofs Go.Proofs.Cells
set_option linter.unusedVariables false
set_option linter.unusedSimpArgs false
set_option maxRecDepth 100000
namespace Go.Proofs.YtpnjbfjomebppaaGreat
noncomputable section
def ZaI {α:Type} (l:List α) (f:α->α):List α:=match l.getLast? with
 |some y=>l.dropLast++[f y]
 |none=>[]
variable {α:Type}
theorem ZI (l:List α) (y:α) (f:α->α):ZaI (l++[y]) f=l++[f y]:=by simp[ZaI]
def ZlE (Zap:TC) (l:List TC):TC:=l.getLastD Zap
theorem ZvC (l:List α) (y:α) (h:l.length<=1000000):IntKind.wrap .i64 (iN (l++[y]).length-1)=(l.length:Int):=by simp only[iN,Le,Yd,List.length_cons,List.length_nil];rw[wrap_i64 _ (by omega) (by omega)];omega
theorem Zu8 {r:R} (l:List r.den) (y:r.den):R.get r (l++[y]) (l.length:Int)=y:=by simp[R.get]
theorem ZlR (l:List α) (y z:α):setI (l++[y]) (l.length:Int) z=l++[z]:=by simp[setI]
theorem Zsu (l:List α) (y:α):Zg (l.length:Int) (l++[y]).length=true:=ZS.2 ⟨by omega,by simp;omega⟩
def ZkO (t:Int):Int:=bif t==8 then 2 else bif t==9 then 3 else bif t==10 then 4 else 1
def cycN (c:CORT) (t:Int) (x:TY):TY:=bif t==8 then (0,0,0,0) else bif t==9 then (0,c.1.2.1.2.2.2.2.2.2.2.2.2,0,0) else bif t==10 then (0,0,0,0) else x
def Z9 (c:CORT):Bool:=c.1.2.2.1
def sodC (c:CORT):Bool:=c.1.2.2.2.2.2.2.2.2.2.2.2.2
def Zsp (y:ITMT) (k:Int) (c:CORT):Bool:=y.1==k&&(y.2.2.2.2.1==Z9 c&&y.2.2.2.2.2==sodC c)
def ZuU (y:ITMT):ITMT:=(y.1,y.2.1,y.2.2.1,IntKind.wrap .i64 (y.2.2.2.1+1),y.2.2.2.2)
def ZeN (l:List ITMT) (k:Int) (c:CORT) (n:ITMT):List ITMT:=match l.getLast? with
 |some y=>bif Zsp y k c then ZaI l ZuU else l++[n]
 |none=>l++[n]
def Za1 (l:List ITMT) (c:CORT) (x:TY) (t:Int):List ITMT:=
 bif ZkO t !=1 then ZeN l (ZkO t) c (ZkO t,cycN c t x,0,1,Z9 c,sodC c)
 else bif t==1 then l++[(1,cycN c t x,0,1,Z9 c,sodC c)]
 else bif t==7 then ZaI l (λy=>(y.1,cycN c t x,IntKind.wrap .i64 (y.2.2.1+1),y.2.2.2))
 else ZaI l (λy=>(y.1,cycN c t x,y.2.2.1,IntKind.wrap .i64 (y.2.2.2.1+1),y.2.2.2.2))
def Zmq:TC:=(0,(0,0,0,0,0,0,0,(false,false,false,false,false,false,false),0,0),false,false,false,0,false,false,false,false,false,false,false)
def ZhR:LINT:=(false,false,false,false,false,false,false,false,false)
def rdS (c:CORT) (t d:Int):TY×List Int:=bif t !=3 then (c.2.2.2.1,c.2.2.1) else (Zax c.1 c.2.2.2.1 d,c.2.2.1++[(Zax c.1 c.2.2.2.1 d).2.2.1])
def finS (c:CORT) (l:LINT) (d:Int):TC×Bool:=
 bif l.2.2.1 then (Zmq,false) else
 bif !Zqb c.2.2.2.2.1 (rdS c c.2.2.2.2.1 d).1 then (Zmq,false) else
 bif (Zj (Zf c.1 l) c.2.1 (rdS c c.2.2.2.2.1 d).2).2 then (Zmq,false) else (finX (Zf c.1 l) c.2.1 (rdS c c.2.2.2.2.1 d).2 l,true)
def ZeZ (c:CORT) (t d:Int):List Int:=bif t==3 then c.2.2.1++[(Zr c t d).2.2.1] else c.2.2.1
def evE (ev:List EVTT) (c:CORT) (l:LINT) (d:Int) (cell:Cell) (moved:Bool):List EVTT:=
 let e1:=bif (finS c l d).2 then ev++[Zid (ZhS c.2.1,c.2.1,ZeZ c (Zm c) d,ZhR,false,false,false,false,0,0) (Zf c.1 l) l] else ev
 bif l.2.2.1 then (bif ZdU c then ev++[Zid (6,c.2.1,c.2.2.1,ZhR,false,false,false,false,0,0) c.1 l] else ev)++[Zid (4,0,[],ZhR,false,false,false,false,0,0) c.1 l]
 else bif moved then e1++[(5,0,[],ZhR,false,false,false,false,cell)] else e1
def evC (cp:List TC) (Zap:TC) (c:CORT) (after:CORT) (l:LINT) (d:Int) (moved:Bool):List TC:=
 let c1:=bif (finS c l d).2 then cp++[(finS c l d).1] else cp
 bif l.2.2.1 then (bif ZdU c then cp++[ZlE Zap cp] else cp)++[after.1]
 else bif moved then c1++[ZlE Zap cp] else c1
abbrev STT:=SYST×List PINT×List ITMT×List EVTT×List TC
def nowS (s:SYST) (i:INPT):Int:=bif i.2.2.1 then 10 else Zm s.1
def ZaN (b:BRDT) (Zap:TC) (st:STT) (i:INPT):STT:=
 let k:=ZL b st.1 i
 (k.1,st.2.1++[k.2.1],Za1 st.2.2.1 st.1.1 (Zr st.1.1 (nowS st.1 i) k.2.2.2.1) (nowS st.1 i),
  evE st.2.2.2.1 st.1.1 k.2.2.1 k.2.2.2.1 k.2.2.2.2.1 k.2.2.2.2.2,evC st.2.2.2.2 Zap st.1.1 k.1.1 k.2.2.1 k.2.2.2.1 k.2.2.2.2.2)
structure RunOk (b:BRDT) (st:STT) (n:Nat):Prop where
 g:smG b.2.1=true
 m:st.1.2.1.length<=100000+2*n
 o:st.1.2.2.2.2.2.length<=n
 k:st.1.1.2.2.1.length<=n
 t:st.2.1.length<=n
 it:st.2.2.1.length<=n
 ev:st.2.2.2.1.length<=2*n
 cp:st.2.2.2.2.length<=2*n
 ne:st.2.2.1=[]->Zm st.1.1=1
theorem ZIM (c:CORT) (l:LINT) (d:Int):(Zk c l d).2.2.1.length<=c.2.2.1.length+1:=by
 have he:∀(c:TC) (s:Int) (g:List Int) (h:Bool) (l:LINT),(endX c s g h l).2.2.1.length<=g.length:=by
  intro c s g h l;unfold endX;cases (Zj c s g).2
  ·exact Yv _
  ·exact Ye _
 unfold Zk;dsimp only;cases l.2.2.1
 ·cases ZX c.2.2.2.2.1==1
  ·cases ZX c.2.2.2.2.1==2||ZX c.2.2.2.2.1==7
   ·cases ZX c.2.2.2.2.1==8
    ·cases ZX c.2.2.2.2.1==9
     ·cases ZX c.2.2.2.2.1==3
      ·cases decide (ZX c.2.2.2.2.1<c.2.2.2.1.2.2.2)&& !(ZX c.2.2.2.2.1==6)
       ·exact YO (he _ _ _ _ _) (YaU _)
       ·exact YaU _
      ·cases le3 (Zax (Zf c.1 l) c.2.2.2.1 d).2.2.2
       ·simp only[Ya,Yb,Yd,List.length_singleton];omega
       ·exact YO (he _ _ _ _ _) (by simp)
     ·cases Zbr (Zf c.1 l) l==0
      ·exact Yv _
      ·exact YaU _
    ·exact YaU _
   ·cases l.1|| !Zh c.2.2.2.1.1<;>exact YaU _
  ·exact YaU _
 ·exact Yv _
theorem Zd9 (b:BRDT) (s:SYST) (i:INPT):(ZL b s i).1.1=Zk s.1 (Zag b (Zn b s i) i) (busS b (Zn b s i) i).2:=by rw[(Zy6 b s i).1];show Zk (busS b (Zn b s i) i).1.1 _ _=_;rw[(Ze0 b (Zn b s i) i).1];rfl
theorem ZH8 (l:List α) (f:α->α):(ZaI l f).length=l.length:=by
 rcases Y2 l with rfl|⟨l',y,rfl⟩
 ·rfl
 ·rw[Y0,ZI];simp
theorem ZOo (l:List ITMT) (k:Int) (c:CORT) (n:ITMT):(ZeN l k c n).length<=l.length+1/\ZeN l k c n≠[]:=by
 unfold ZeN;rcases Y2 l with rfl|⟨l',y,rfl⟩
 ·exact⟨by simp,by simp⟩
 ·rw[Y0,List.getLast?_concat];dsimp only;cases Zsp y k c
  ·exact⟨by simp,by simp⟩
  ·simp only[Ya];rw[ZI];exact⟨by simp,by simp⟩
theorem ZOq (l:List ITMT) (c:CORT) (x:TY) (t:Int) (h:l=[]->t=1\/t=10):(Za1 l c x t).length<=l.length+1/\Za1 l c x t≠[]:=by
 have hj:=ZOo l (ZkO t) c (ZkO t,cycN c t x,0,1,Z9 c,sodC c);have ho:∀f:ITMT->ITMT,l≠[]->(ZaI l f).length<=l.length+1/\ZaI l f≠[]:=λf hl=>by have:=ZH8 l f;refine⟨by omega,λe=>hl ?_⟩;rw[e] at this;exact Y1.1 this.symm
 unfold Za1;cases hk:ZkO t !=1
 ·cases h1:t==1
  ·have hl:l≠[]:=λe=>by
    rcases h e with rfl|rfl
    ·simp at h1
    ·simp[ZkO] at hk
   cases t==7
   ·exact ho _ hl
   ·exact ho _ hl
  ·exact⟨by simp,by simp⟩
 ·exact hj
theorem ZWe (s:SYST) (i:INPT) (h:Zm s.1=1):nowS s i=1\/nowS s i=10:=by
 unfold nowS;rw[h];cases i.2.2.1
 ·exact .inl rfl
 ·exact .inr rfl
theorem ZWQ (ev:List EVTT) (c:CORT) (l:LINT) (d:Int) (cell:Cell) (moved:Bool):(evE ev c l d cell moved).length<=ev.length+2:=by
 unfold evE;dsimp only;cases l.2.2.1
 ·cases (finS c l d).2<;>cases moved<;>simp
 ·cases ZdU c<;>simp
theorem ZWS (cp:List TC) (Zap:TC) (c after:CORT) (l:LINT) (d:Int) (moved:Bool):(evC cp Zap c after l d moved).length<=cp.length+2:=by
 unfold evC;dsimp only;cases l.2.2.1
 ·cases (finS c l d).2<;>cases moved<;>simp
 ·cases ZdU c<;>simp
theorem ZQh (b:BRDT) (Zap:TC) (st:STT) (i:INPT) (n:Nat) (h:RunOk b st n):RunOk b (ZaN b Zap st i) (n+1):=by
 have hc:=Zy6 b st.1 i;have hi:=ZOq st.2.2.1 st.1.1 (Zr st.1.1 (nowS st.1 i) (ZL b st.1 i).2.2.2.1) (nowS st.1 i) (λe=>ZWe st.1 i (h.ne e));refine⟨h.g,?_,?_,?_,?_,?_,?_,?_,?_⟩
 ·have:=h.m;show (ZL b st.1 i).1.2.1.length<=_;omega
 ·have:=h.o;show (ZL b st.1 i).1.2.2.2.2.2.length<=_;omega
 ·have:=h.k;show (ZL b st.1 i).1.1.2.2.1.length<=_;rw[Zd9];have:=ZIM st.1.1 (Zag b (Zn b st.1 i) i) (busS b (Zn b st.1 i) i).2;omega
 ·have:=h.t;show (st.2.1++[_]).length<=_;simp;omega
 ·have:=h.it;exact YO hi.1 (by omega)
 ·have:=h.ev;exact YO (ZWQ _ _ _ _ _ _) (by omega)
 ·have:=h.cp;exact YO (ZWS _ _ _ _ _ _ _) (by omega)
 ·intro e;exact absurd e hi.2
def ZbO (b:BRDT) (Zap:TC) (st:STT) (l:List INPT):STT:=l.foldl (ZaN b Zap) st
theorem ZpA (b:BRDT) (Zap:TC):∀(l:List INPT) (st:STT) (n:Nat),RunOk b st n->RunOk b (ZbO b Zap st l) (n+l.length)
 |[],st,n,h=>h
 |i::l,st,n,h=>by have:=ZpA b Zap l (ZaN b Zap st i) (n+1) (ZQh b Zap st i n h);rw[show n+(i::l).length=n+1+l.length by simp;omega];exact this
theorem ZJS (l:List α) (d:α) (i:Nat) (h:i<l.length):l.take (i+1)=l.take i++[l.getD i d]:=by rw[YaK,Yq,Yj h];rfl
def Zbg (b:BRDT):STT:=((wNew b).1,[],[],[],[])
def Z2 (b:BRDT):TC:=(wNew b).1.1.1
def ZvB:SYST:=((Zmq,0,[],(0,0,0,0),0,false),[],(0,false,false,false,false,0,0,false,false,false,false,false,0,0,0,0,0,0,0,false),(0,0,0),0,[])
theorem Zmt (b:BRDT) (hg:smG b.2.1=true) (hm:smC b.2.2.2.2.2.2=true):Zmu b=true:=by
 unfold Zmu Zeb;simp only[RT.val,hg,hm,Yk,Ya];cases b.1 !=1&&b.1 !=2
 ·cases Zbt b.2.1 !=0
  ·cases decide (b.2.2.1<0)||(decide (b.2.2.1>100)|| !vldB b.2.2.2.2.2.2)<;>rfl
  ·rfl
 ·rfl
def newS (b:BRDT):SYST:=((((newX b.1).1.1,(0,0,0,0,0,0,0,(false,false,false,false,false,false,false),0,0),false,false,false,(newX b.1).1.2.2.2.2.2.1,false,false,false,false,false,false,false),0,[],(1,0,0,4),1,false),
 normX b.2.2.2.2.2.2,(0,false,false,false,false,0,0,false,false,false,false,false,0,0,0,0,7,0,0,false),(0,0,0),0,[])
theorem Zmx (b:BRDT) (hg:smG b.2.1=true) (hm:b.2.2.2.2.2.2.length<=100000):ZXb b=true/\(wNew b).2=ZbZ b/\((wNew b).2=0->RunOk b (Zbg b) 0/\(wNew b).1.2.1=normX b.2.2.2.2.2.2):=by
 have hc:=smCb (l:=b.2.2.2.2.2.2) (by omega);have hv:(ZGp b).val=some (bif ZbZ b !=0 then (ZvB,ZbZ b) else ((newS b),0)):=by unfold ZGp;simp only[RT.val,Zmt b hg hc,hc,Ya];cases ZbZ b !=0<;>rfl
 refine⟨by simp only[ZXb,hv];rfl,?_,?_⟩
 ·simp only[wNew,hv,getO];cases hx:ZbZ b !=0
  ·simp at hx;exact hx.symm
  ·rfl
 ·intro h0;have hx:(ZbZ b !=0)=false:=by
   cases hx:ZbZ b !=0
   ·rfl
   ·simp only[wNew,hv,getO,hx,Ya] at h0;rw[h0] at hx;simp at hx
  have e:wNew b=((newS b),0):=by simp only[wNew,hv,getO,hx,Yb]
  have hn:=Zeq b.2.2.2.2.2.2;unfold Zbg;rw[e];exact⟨⟨hg,by show (normX b.2.2.2.2.2.2).length<=_;omega,Ye _,Ye _,Ye _,Ye _,Ye _,Ye _,λ_=>rfl⟩,rfl⟩
def endS (Zap:TC) (st:STT):RUNT:=
 (st.2.1,st.2.2.1,bif ZdU st.1.1 then st.2.2.2.1++[(7,st.1.1.2.1,st.1.1.2.2.1,ZhR,false,false,false,false,0,0)] else st.2.2.2.1,bif ZdU st.1.1 then st.2.2.2.2++[ZlE Zap st.2.2.2.2] else st.2.2.2.2,st.1)
def ZbL (b:BRDT) (l:List INPT):RUNT×Int:=bif (wNew b).2 !=0 then (([],[],[],[],ZvB),(wNew b).2) else (endS (Z2 b) (ZbO b (Z2 b) (Zbg b) l),0)
end
end Go.Proofs.YtpnjbfjomebppaaGreat
open Go.Proofs.Tryz (prog)
open Go Go.S3 Go.Proofs
namespace Go.Proofs.YtpnjbfjomebppaaGreat
noncomputable section
abbrev ZaJ:R:=R.int u8
abbrev ZaK:Nat:=5
def Zzq:LS:={n:=64,Sl:=[(3,.tip 0),(7,.code (So (R.sl ZeM))),(8,.code (So Kc)),(9,.code (So Kc))],Bx:=[],Sg:=[⟨Ka,5,false⟩]}
def Zie (a:List INPT×Int×Int×List Int×PUnit):RT (Option (Go1 (List INPT×Int×Int×List Int×PUnit))):=
 let x1:INPT:=R.get ZeM a.1 a.2.2.1
 let x2:= !x1.1
 let x3:=ZfE x2 0
 let x4:= !x3
 let x5:=x1.2
 let x6:=x5.1
 let x7:=ZfE x6 1
 let x8:= !x7
 let x9:=x5.2
 let x10:=x9.1
 let x11:=ZfE x10 2
 let x12:= !x11
 let x13:=x9.2
 let x14:=x13.1
 let x15:=ZfE x14 3
 let x16:= !x15
 let p1:=x16::x12::x8::x4::[]
 let x17:=x13.2
 let x18:=x17.1
 let x19:=ZfE x18 4
 let x20:= !x19
 let p3:=x20::p1
 let x21:=x17.2
 let x22:=x21.1
 let x23:=ZfE x22 5
 let x24:= !x23
 let p6:=x24::p3
 let x25:=x21.2
 let x26:=x25.1
 let x27:=ZfE x26 6
 let p7:=(!x27)::p6
 let x28:=x25.2
 let x29:=x28.1
 let x30:=orR p7 (ZfE x29 7)
 let x31:= !x30
 let x32:=orR p6 x27
 let x33:= !x32
 let p2:=x33::x31::(decide (a.2.2.1>=65536))::(!Zg a.2.2.1 (Le a.1))::[]
 let x34:=orR p3 x23
 let x35:= !x34
 let p4:=x35::p2
 let x36:=orR p1 x19
 let x37:= !x36
 let p5:=x37::p4
 let x38:=x4||(x8||(x12||x15))
 let x39:= !x38
 let p8:=x39::p5
 let x40:=x4||(x8||x11)
 let x41:= !x40
 let p9:=x41::p8
 let x42:=x4||x7
 let x43:= !x42
 let p10:=x43::p9
 let p11:=x4::p10
 let x44:=orI u8 (orI u8 (orI u8 (orI u8 (orI u8 (orI u8 (orI u8 (wBit x2 0) (wBit x6 1)) (wBit x10 2)) (wBit x14 3)) (wBit x18 4)) (wBit x22 5)) (wBit x26 6)) (wBit x29 7)
 let x45:=x28.2
 let x46:=x45.1
 let x47:=x45.2
 let x48:List Int:=a.2.2.2.1++[x44,x46,x47,ZhY x44 x46 x47]
 .br (decide (a.2.2.1<a.2.1)) (.br (orR p11 (Nat.ble (Le x48) most)) (.br (orR p10 x3) (.br (orR p9 x42) (.br (orR p8 x40) (.br (orR p5 x38) (.br (orR p4 x36) (.br (orR p2 x34) (.br (!Zg a.2.2.1 (Le a.1)||(decide (a.2.2.1>=65536)||(x31||x32))) (.br (!Zg a.2.2.1 (Le a.1)||(decide (a.2.2.1>=65536)||x30)) (.br (Zg a.2.2.1 (Le a.1)) (.br (decide (a.2.2.1>=65536)) (Ls (Go1.brk (a.1,a.2.1,a.2.2.1,a.2.2.2.1,PUnit.unit))) (Ls (Go1.cont (a.1,a.2.1,i64.wrap (a.2.2.1+1),x48,PUnit.unit)))) Ln) Ln) Ln) Ln) Ln) Ln) Ln) Ln) Ln) Ln) (Ls (Go1.brk (a.1,a.2.1,a.2.2.1,a.2.2.2.1,PUnit.unit)))
def ZmA:Ora:=Zbi false Zzq Zie (λa=>1000000000000)
theorem ZrR:ZaM (envX prog [(116,ZI8),(117,ZmB)] [] 127 8) (.block 0 (.loop (Z5 Tryz.f56.body 0))) ZmA:=
 loopP ⟨ZrS,ZiL,Tv⟩
def ZgA (l:List INPT):RT (Option (List Int)):=
 let x1:=runF false Zie (λa=>1000000000000) (l,iN (Le l),0,[],())
 .br (okB x1) (Ls (getO (false,l,iN (Le l),0,[],()) x1).2.2.2.2.1) Ln
def ZbD (l:List INPT):List Int:=getO [] (ZgA l).val
def ZgB (l:List INPT):Bool:=okB (ZgA l).val
def ZvJ:En:=frzE (newE ZaJ ZaK ZvI (λa=>some (ZgB a)) (λa=>ZbD a))
theorem ZvK:Zb prog 56 (newE ZaJ ZaK ZvI (λa=>some (ZgB a)) (λa=>ZbD a)):=
 Zjx (P:=prog) (n:=127) (k:=8) (l:=[(116,ZI8),(117,ZmB)]) (ol:=[(0,ZmA)]) ⟨ZrS,ZiL,Tv⟩ Tryz.func56 rfl (by kernel_rfl) Tryz.call56 ⟨ZrR,Tv⟩ (r:=ZaJ) (T:=ZaK) (ts:=ZvI) (t:=λa=>ZgA a) (λa=>by kernel_rfl)
theorem Zzp:Zb prog 56 ZvJ:=Zrz ZvK
def ZhD (s:List Int×Int) (n:Int):RT (Option (List Int×List Int×Int)):=
 let x1:=decide (iN (Le (Stg.l (newG ZaJ ZaK (ZbD (Zaf s n).1))))>0)
 let x2:=x1&&(Za (Zaf s n).2 4).1==0
 let x3:= !x2
 let x4:List Int:=bif x1 then (Za (Zaf s n).2 4).2.1 else (Zaf s n).2.1
 let x5:Int:=bif x1 then (Za (Zaf s n).2 4).2.2 else (Zaf s n).2.2
 let x6:List Int×Int:=(x4,x5)
 let x7:=Zo x6 (iN (Le (Stg.l (newG ZaJ ZaK (ZbD (Zaf s n).1)))))
 let x8:= !x7
 let x9:=Za x6 (iN (Le (Stg.l (newG ZaJ ZaK (ZbD (Zaf s n).1)))))
 let x10:=x9.1
 let x11:=Zg x10 (Le (Stg.l (newG ZaJ ZaK (ZbD (Zaf s n).1))))
 let x12:= !x11
 let x13:=x9.2
 let x14:=Zo x13 8
 let x15:= !x14
 let p1:=x15::x12::x8::x3::[]
 let x16:=Za x13 8
 let x17:=x16.1
 let x18:=decide (0<=x17)
 let p2:=(!x18)::p1
 let x19:=x16.2
 .br (!ZjB s n||ZgB (Zaf s n).1) (.br (ZjB s n) (.br (!x1||Zo (Zaf s n).2 4) (.br (orR p2 x11) (.br (orR p1 x18) (.br (x3||(x8||(x12||x14))) (.br (x3||(x8||x11)) (.br (x3||x7) (Ls ((bif x2 then setI (Stg.l (newG ZaJ ZaK (ZbD (Zaf s n).1))) x10 (xorI u8 (R.get (Stg.r (newG ZaJ ZaK (ZbD (Zaf s n).1))) (Stg.l (newG ZaJ ZaK (ZbD (Zaf s n).1))) x10) (shlI u8 1 x17)) else Stg.l (newG ZaJ ZaK (ZbD (Zaf s n).1)),bif x2 then x19.1 else x4,bif x2 then x19.2 else x5))) Ln) Ln) Ln) Ln) Ln) Ln) Ln) Ln
def Zg0 (s:List Int×Int) (n:Int):List Int×List Int×Int:=getO (Zmz.Df,ZCf.Df) (ZhD s n).val
def Zmb (s:List Int×Int) (n:Int):Bool:=okB (ZhD s n).val
def ZFq:En:=boxE ZCf ZxE Zmz (λa=>some (Zmb a.1 a.2)) (λa=>Zg0 a.1 a.2)
theorem ZId:Zb prog 67 ZFq:=
 ZcF (P:=prog) (n:=63) (k:=8) (l:=[(56,ZvJ),(68,ZcQ),(125,ZFr)]) (ol:=[]) ⟨Zzp,Zbf,ZIg,Tv⟩ Tryz.func67 rfl (by kernel_rfl) Tryz.call67 trivial (rb:=ZCf) (ts:=ZxE) (rs:=Zmz) (t:=λa=>ZhD a.1 a.2) (λa=>by kernel_rfl)
theorem ZOY:Zie=Zc9:=by funext a;rfl
theorem ZPM (l:List INPT) (hl:l.length<=1000):ZgB l=true/\ZbD l=ZcH l/\(ZbD l).length=4*l.length:=by
 have h:=ZGq l hl;have e:ZgA l=ZdQ l:=by unfold ZgA ZdQ;rw[ZOY]
 have e2:ZbD l=ZcH l:=by unfold ZbD ZcH;rw[e];rfl
 refine⟨by unfold ZgB;rw[e];exact h.1,e2,by rw[e2];exact h.2⟩
theorem ZIe {s:List Int×Int} {k:Int} (h:NB s k) (hk:k<=50000) (n:Nat) (hn:n<=250):
  Zmb s (n:Int)=true/\NB (Zg0 s (n:Int)).2 (k+10+30*n)/\(Zg0 s (n:Int)).1.length<=4*n/\∃m:Nat,(Zg0 s (n:Int)).1.length=4*m:=by
 have hms:=mst;obtain⟨c1,b1,l1⟩:=ZIh h (by omega) n hn;obtain⟨c2,e2,l2⟩:=ZPM (Zaf s (n:Int)).1 (by omega);have hg:∀l:List Int,Stg.l (newG ZaJ ZaK l)=l:=λ_=>rfl
 have hr:∀l:List Int,Stg.r (newG ZaJ ZaK l)=R.int .u8:=λ_=>rfl
 obtain⟨L,hL⟩:∃L,L=ZbD (Zaf s (n:Int)).1:=⟨_,rfl⟩;rw[<-hL] at l2;obtain⟨c3,b3,_⟩:=Zt b1 (by omega) 4 (by decide) (by decide);have b4:NB (bif decide (iN L.length>0) then (Za (Zaf s (n:Int)).2 4).2.1 else (Zaf s (n:Int)).2.1,bif decide (iN L.length>0) then (Za (Zaf s (n:Int)).2 4).2.2 else (Zaf s (n:Int)).2.2) (k+3+30*n):=by
  cases decide (iN L.length>0)
  ·exact b1.up (by omega)
  ·exact b3.up (by omega)
 obtain⟨s4,hs4⟩:∃s4:List Int×Int,s4=(bif decide (iN L.length>0) then (Za (Zaf s (n:Int)).2 4).2.1 else (Zaf s (n:Int)).2.1,bif decide (iN L.length>0) then (Za (Zaf s (n:Int)).2 4).2.2 else (Zaf s (n:Int)).2.2):=⟨_,rfl⟩;rw[<-hs4] at b4;have hv:∃l s',(ZhD s (n:Int)).val=some (l,s')/\NB s' (k+10+30*n)/\l.length=L.length:=by
  by_cases hz:0<L.length
  ·have d:decide (iN L.length>0)=true:=Yr (by simp only[iN,Le];omega);obtain⟨c5,b5,d0,d1⟩:=Zt b4 (by omega) (iN L.length) (by simp only[iN,Le];omega) (by simp only[iN,Le];omega);obtain⟨c6,b6,f0,f1⟩:=Zt b5 (by omega) 8 (by decide) (by decide);have r5:Zg (Za s4 (iN L.length)).1 L.length=true:=ZS.2 ⟨d0,by simpa [iN,Le] using d1⟩;have e6:decide (0<=(Za (Za s4 (iN L.length)).2 8).1)=true:=Yr f0;rw[d] at hs4;simp only[Ya] at hs4;unfold ZhD;simp only[RT.val,hg,hr,<-hL,c1,c2,d,c3,<-hs4,c5,r5,c6,e6,Zb6,Zbe,YN,Yf,Yk,Yh,Ya];cases (Za (Zaf s (n:Int)).2 4).1==0
   ·exact⟨_,_,rfl,b3.up (by omega),rfl⟩
   ·exact⟨_,_,rfl,b6.up (by omega),by simp only[Ya,setI,YaG]⟩
  ·have d:decide (iN L.length>0)=false:=YG (by simp only[iN,Le];omega);rw[d] at hs4;simp only[Yb] at hs4;unfold ZhD;simp only[RT.val,hg,hr,<-hL,c1,c2,d,Zb6,Zbe,YX,Yf,Ym,Yt,Yk,Yh,Ya,Yb];exact⟨_,_,rfl,b1.up (by omega),rfl⟩
 obtain⟨l,s',hv,h1,h2⟩:=hv;simp only[Zmb,Zg0,hv,okB,getO];exact⟨trivial,h1,by omega,(Zaf s (n:Int)).1.length,by omega⟩
abbrev Zmw:List Sh:=[So (R.sl Z8),So (R.sl Z8)]
def ZGo:LS:={n:=26,Sl:=[(0,.code (So (R.sl Z8))),(1,.code (So (R.sl Z8))),(4,.code (So R.bool)),(12,.code (So Kc)),(13,.code (So Kc))],Bx:=[],Sg:=[]}
def Zfb (a:List TC×List TC×Bool×Int×Int×PUnit):RT (Option (Go1 (List TC×List TC×Bool×Int×Int×PUnit))):=
 let x1:= !Zg a.2.2.2.2.1 (Le a.1)||Zg a.2.2.2.2.1 (Le a.2.1)
 let x2:TC:=R.get Z8 a.1 a.2.2.2.2.1
 let x3:TC:=R.get Z8 a.2.1 a.2.2.2.2.1
 let x56:Int×Int×PUnit:=(a.2.2.2.1,a.2.2.2.2.1,PUnit.unit)
 .br (decide (a.2.2.2.2.1<a.2.2.2.1)) (.br (!x1||Zg a.2.2.2.2.1 (Le a.1)) (.br (x1) (.br (!(R.eqf Z8 x2 x3 true)) (Ls (Go1.ret (a.1,a.2.1,false,x56))) (Ls (Go1.cont (a.1,a.2.1,a.2.2.1,a.2.2.2.1,i64.wrap (a.2.2.2.2.1+1),PUnit.unit)))) Ln) Ln) (Ls (Go1.brk (a.1,a.2.1,a.2.2.1,x56)))
def Zqm:Ora:=Zbi true ZGo Zfb (λa=>1000000000000)
theorem ZvG:ZaM (envX Tryz.prog [] [] 63 8) (.block 0 (.loop (Z5 Tryz.f39.body 0))) Zqm:=
 loopP trivial
def ZiI (a:List TC) (b:List TC):RT (Option (Bool)):=
 let x1:=runF true Zfb (λa_1=>1000000000000) (a,b,false,iN (Le a),0,())
 let x2:=getO (false,a,b,false,iN (Le a),0,()) x1
 .br (iN (Le a) !=iN (Le b)) (Ls (false)) (.br (okB x1) (.br x2.1 (Ls x2.2.2.2.1) (Ls (true))) Ln)
def Zzm (a:List TC) (b:List TC):Bool:=getO ZnX.Df (ZiI a b).val
def ZrP (a:List TC) (b:List TC):Bool:=okB (ZiI a b).val
def ZPL:En:=Zi Zmw ZnX (λa=>some (ZrP a.1 a.2)) (λa=>Zzm a.1 a.2)
theorem ZGn:Zb Tryz.prog 39 ZPL:=
 pureP 63 [] [(0,Zqm)] _ _ trivial Tryz.func39 Tryz.call39 ⟨ZvG,Tv⟩
def Zvj (k:Int):Bool:=k==1||(k==2||k==3)
def ZEE (c:TC) (e:EVTT):TC:=(c.1,c.2.1,c.2.2.1,c.2.2.2.1,c.2.2.2.2.1,c.2.2.2.2.2.1,e.2.2.2.2.2.1,e.2.2.2.2.1,e.2.2.2.2.2.2.2.1,e.2.2.2.2.2.2.1,c.2.2.2.2.2.2.2.2.2.2)
def Zdz (c:TC) (e:EVTT):TC:=bif Zvj e.1 then finX (ZEE (Zy c e.2.1) e) e.2.1 e.2.2.1 e.2.2.2.1 else bif e.1==4 then Z1 c else c
def ZED (c:TC) (x:TY) (b:Int):TY:=(x.1,x.2.1,bif Zaz x.1 then b else x.2.2.1,bif x.1==1||x.1==8 then ZeT c.1 b else x.2.2.2)
def cyX (c:TC) (s:Int) (g:List Int):List Int->List TY
 |[]=>[]
 |b::r=>bif (Zj c s g).2 then ZED c (Zj c s g).1 b::cyX c s (g++[b]) r else []
def cycE (k:Int):Bool:=Zvj k||(k==6||k==7)
def Zga (c:TC) (e:EVTT):List TY:=bif cycE e.1 then cyX (Zy c e.2.1) e.2.1 [] e.2.2.1 else []
def Zwt (c:TC):List EVTT->List TC
 |[]=>[]
 |e::l=>Zdz c e::Zwt (Zdz c e) l
def Za0 (c:TC) (l:List EVTT):TC:=l.foldl Zdz c
variable {r:R}
theorem Zr9 (g:List r.den) (i:Nat) (h:i<g.length):g.take (i+1)=g.take i++[R.get r g (i:Int)]:=by rw[YaK,Yj h];simp[R.get,Yj h]
theorem ZQf (hp:r.plain=true) (T:List r.den×List r.den×Bool×Int×Int×PUnit->RT (Option (Go1 (List r.den×List r.den×Bool×Int×Int×PUnit))))
  (hT:∀(a b:List r.den) (f:Bool) (n i:Int),Zg i a.length=true->Zg i b.length=true->(T (a,b,f,n,i,())).val=bif decide (i<n) then (bif r.eqf (R.get r a i) (R.get r b i) true then some (.cont (a,b,f,n,IntKind.wrap .i64 (i+1),())) else some (.ret (a,b,false,n,i,()))) else some (.brk (a,b,f,n,i,())))
  (hT2:∀(a b:List r.den) (f:Bool) (n:Int),(T (a,b,f,n,n,())).val=some (.brk (a,b,f,n,n,())))
  (a b:List r.den) (h:a.length=b.length) (hl:a.length<=1000000000):
  ∃q,runF true T (λ_=>1000000000000) (a,b,false,(a.length:Int),0,())=some q/\((q.1=false/\a=b)\/(q.1=true/\a≠b/\q.2.2.2.1=false)):=by
 refine ZN (fl:=true) (t:=T) (fuel:=λ_=>1000000000000)
  (λx=>∃i:Nat,i<=a.length/\a.take i=b.take i/\x=(a,b,false,(a.length:Int),(i:Int),()))
  (λx=>Int.toNat (x.2.2.2.1-x.2.2.2.2.1)) _ ?_ _ ⟨0,Yv _,rfl,rfl⟩ (by simp only;omega)
 rintro x ⟨i,hi,ht,rfl⟩;by_cases hlt:i<a.length
 ·have d:decide ((i:Int)<(a.length:Int))=true:=Yr (by omega);have i1:Zg (i:Int) a.length=true:=ZS.2 ⟨by omega,by omega⟩;have i2:Zg (i:Int) b.length=true:=ZS.2 ⟨by omega,by omega⟩;have w:IntKind.wrap .i64 ((i:Int)+1)=((i+1:Nat):Int):=by rw[wrap_i64 _ (by omega) (by omega)];omega
  cases he:r.eqf (R.get r a (i:Int)) (R.get r b (i:Int)) true
  ·right;right;refine⟨(a,b,false,(a.length:Int),(i:Int),()),rfl,by rw[hT _ _ _ _ _ i1 i2];simp only[d,he,Ya,Yb],.inr ⟨rfl,λe=> ?_,rfl⟩⟩;rw[e,R.eqf_refl] at he;exact absurd he (by simp)
  ·left;have e:=((R.eqf_iff r hp _ _ _).1 he).1;refine⟨(a,b,false,(a.length:Int),((i+1:Nat):Int),()),by rw[hT _ _ _ _ _ i1 i2];simp only[d,he,w,Ya],⟨i+1,by omega,?_,rfl⟩,by simp only;omega⟩;rw[Zr9 a i hlt,Zr9 b i (by omega),ht,e]
 ·right;left;have e1:i=a.length:=by omega
  subst e1;refine⟨_,hT2 _ _ _ _,.inl ⟨rfl,?_⟩⟩;rw[YaW] at ht;rw[ht,h,YaW]
def ZiY (r:R):List r.den->List r.den->Bool
 |[],[]=>true
 |x::a,y::b=>r.eqf x y (ZiY r a b)
 |_,_=>false
theorem ZmY (r:R) (hp:r.plain=true):∀a b:List r.den,ZiY r a b=true↔a=b
 |[],[]=>by simp[ZiY]
 |[],y::b=>by simp[ZiY]
 |x::a,[]=>by simp[ZiY]
 |x::a,y::b=>by simp only[ZiY];rw[R.eqf_iff r hp,ZmY r hp a b];simp
theorem ZqI (r:R):∀a:List r.den,ZiY r a a=true
 |[]=>rfl
 |x::a=>by simp only[ZiY,R.eqf_refl,ZqI r a]
theorem ZDD (r:R) (hp:r.plain=true) {a b:List r.den} (h:a≠b):ZiY r a b=false:=by
 cases hq:ZiY r a b
 ·rfl
 ·exact absurd ((ZmY r hp a b).1 hq) h
variable {α:Type}
theorem ZYs {a b:List α} (h:(iN a.length !=iN b.length)=true):a≠b:=λe=>by subst e;simp at h
theorem ZKh (a b:List TC) (h:a.length<=1000000000):ZrP a b=true/\Zzm a b=ZiY Z8 a b:=by
 have hv:(ZiI a b).val=some (ZiY Z8 a b):=by
  unfold ZiI;cases hx:iN a.length !=iN b.length
  ·have hl:a.length=b.length:=by simp only[iN,Le,bne_eq_false_iff_eq] at hx;omega
   obtain⟨q,hr,hq⟩:=ZQf (r:=Z8) rfl Zfb (λa b f n i h1 h2=>by
    simp only[Zfb,RT.val,h1,h2,Yf,Yae,Yh,Ya];cases decide (i<n)
    ·rfl
    ·simp only[Ya]
     cases Z8.eqf (R.get Z8 a i) (R.get Z8 b i) true<;>rfl) (λa b f n=>by
    have d:decide (n<n)=false:=YG (by omega)
    simp only[Zfb,RT.val,d,Yb]) a b hl h
   simp only[RT.val,iN,Le] at hr|-;rcases hq with ⟨e1,e2⟩|⟨e1,e2,e3⟩
   ·rw[(ZmY Z8 rfl a b).2 e2];simp only[hr,e1,okB,getO,Ya,Yb]
   ·simp only[hr,e1,e3,okB,getO,Ya,Yb];exact congrArg some (ZDD Z8 rfl e2).symm
  ·simp only[RT.val,hx,Ya];exact congrArg some (ZDD Z8 rfl (ZYs hx)).symm
 exact⟨by simp only[ZrP,hv];rfl,by simp only[Zzm,hv,getO]⟩
def ZGA {α:Type} (l:List α):Bool:=Nat.ble l.length 1000000
theorem ZQi {l:List α} (h:ZGA l=true):l.length<=1000000:=by simpa [ZGA] using h
def ZvH:En:=Zi Zmw ZnX (λa=>some (ZGA a.1)) (λa=>ZiY Z8 a.1 a.2)
theorem Zzl:Zb Tryz.prog 39 ZvH:=Zr8 ZGn λa h=>ZKh a.1 a.2 (YO (ZQi h) (by omega))
def ZAd (l:Int) (k:Int):RT (Int):=
 .Lf (andI i64 (i64.wrap (i64.wrap (andI i64 l 7-andI i64 k 7)+7)) 7)
def Zxn (l:Int) (k:Int):Int:=(ZAd l k).val
def ZLf:En:=Zi ZJG ZTs (λ_=>none) (λa=>Zxn a.1 a.2)
theorem ZLe:Zb prog 381 ZLf:=
 pureQ 31 [] [] _ _ trivial Tryz.func381 Tryz.call381 trivial
abbrev ZEo:List Sh:=[So Ka,So Kc]
def ZLi:LS:={n:=22,Sl:=[(0,.code (So Ka)),(1,.code (So Kc)),(4,.code (So Kc)),(5,.code (So Kc))],Bx:=[],Sg:=[]}
def Zdt (a:QT27):RT (Option (Go1 (QT27))):=
 let x1:=andI i64 (i64.wrap (andI i64 a.2.1 7+a.2.2.2.1)) 7
 .br (decide (a.2.2.2.1<=8)) (.br (decide (0<=x1)) (.br (andI u8 (shrI u8 a.1 x1) 1==1) (Ls (Go1.ret (a.1,a.2.1,x1,a.2.2.2.1,PUnit.unit))) (Ls (Go1.cont (a.1,a.2.1,a.2.2.1,i64.wrap (a.2.2.2.1+1),PUnit.unit)))) Ln) (Ls (Go1.brk (a.1,a.2.1,a.2.2.1,a.2.2.2.1,PUnit.unit)))
def Zxp:Ora:=Zbi true ZLi Zdt (λa=>9)
theorem ZAe:ZaM (envX prog [] [] 127 8) (.block 0 (.loop (Z5 Tryz.f346.body 0))) Zxp:=
 loopP trivial
def Ziq (s:Int) (k:Int):RT (Option (Int)):=
 let x1:=runF true Zdt (λa=>9) (s,k,0,1,())
 let x2:=getO (false,s,k,0,1,()) x1
 .br (okB x1) (.br x2.1 (Ls x2.2.2.2.1) (Ls (-1))) Ln
def Zjj (s:Int) (k:Int):Int:=getO ZTs.Df (Ziq s k).val
def Zir (s:Int) (k:Int):Bool:=okB (Ziq s k).val
def ZAf:En:=Zi ZEo ZTs (λa=>some (Zir a.1 a.2)) (λa=>Zjj a.1 a.2)
theorem Zxo:Zb prog 346 ZAf:=
 pureP 127 [] [(0,Zxp)] _ _ trivial Tryz.func346 Tryz.call346 ⟨ZAe,Tv⟩
abbrev ZEm:List Sh:=[So Ka,So Ka,So Ka,So Kc,So R.bool]
def Znq (r:Int) (m:Int) (s:Int) (k:Int) (p:Bool):RT (Option (Int)):=
 .br (!Zir (ZT u8 r m) k||Zir (bif p then ZT u8 s m else s) k) (.br (Zir (ZT u8 r m) k) (.br (decide (Zjj (ZT u8 r m) k<0)||decide (Zjj (bif p then ZT u8 s m else s) k>=0)&&decide (Zxn (Zjj (ZT u8 r m) k) k>=Zxn (Zjj (bif p then ZT u8 s m else s) k) k)) (Ls (-1)) (Ls (Zjj (ZT u8 r m) k))) Ln) Ln
def ZEn (r:Int) (m:Int) (s:Int) (k:Int) (p:Bool):Int:=getO ZTs.Df (Znq r m s k p).val
def Zs2 (r:Int) (m:Int) (s:Int) (k:Int) (p:Bool):Bool:=okB (Znq r m s k p).val
def ZLh:En:=Zi ZEm ZTs (λa=>some (Zs2 a.1 a.2.1 a.2.2.1 a.2.2.2.1 a.2.2.2.2)) (λa=>ZEn a.1 a.2.1 a.2.2.1 a.2.2.2.1 a.2.2.2.2)
theorem ZLg:Zb prog 344 ZLh:=
 pureP 8191 [(346,ZAf),(381,ZLf)] [] _ _ ⟨Zxo,ZLe,Tv⟩ Tryz.func344 Tryz.call344 trivial
def ZTg:RT PICT:=
 .Lf ((0,false,false,false,false,0,0,false,false,false,false,false,0,0,0,0,7,0,0,false))
def ZVg:PICT:=(ZTg).val
def ZEu:En:=Zi Zxj ZUj (λ_=>none) (λa=>ZVg)
theorem ZEt:Zb prog 99 ZEu:=
 pureQ 1 [] [] _ _ trivial Tryz.func99 Tryz.call99 trivial
abbrev ZLl:List Sh:=[Sh.agg Zb3]
def ZLm (p:PICT):RT (Int):=
 .br p.2.1 (.Lf p.2.2.2.2.2.2.2.2.2.2.2.2.1) (.Lf p.2.2.2.2.2.2.2.2.2.2.2.2.2.1)
def ZGT (p:PICT):Int:=(ZLm p).val
def ZLo:En:=Zi ZLl ZNl (λ_=>none) (λa=>ZGT a)
theorem ZEr:Zb prog 273 ZLo:=
 pureQ 7 [] [] _ _ trivial Tryz.func273 Tryz.call273 trivial
def Zny (p:PICT):RT (Option (Int)):=
 let x1:=p.2.2.2.2.2.2.2.2.2.2.2.2.2.2
 let x2:=x1.2
 let x3:=x2.1
 let x4:=x1.1
 let x5:=x2.2.1
 .br (Zs2 (ZGT p) x3 x4 x5 p.2.2.2.2.2.2.2.2.2.1) (Ls (ZEn (ZGT p) x3 x4 x5 p.2.2.2.2.2.2.2.2.2.1)) Ln
def Za3 (p:PICT):Int:=getO ZTs.Df (Zny p).val
def Zkv (p:PICT):Bool:=okB (Zny p).val
def Ztc:En:=Zi ZLl ZTs (λa=>some (Zkv a)) (λa=>Za3 a)
theorem Znx:Zb prog 268 Ztc:=
 pureP 7 [(273,ZLo),(344,ZLh)] [] _ _ ⟨ZEr,ZLg,Tv⟩ Tryz.func268 Tryz.call268 trivial
def Zxr (p:PICT):RT (Option (Bool)):=
 .br (Zkv p) (Ls (decide (Za3 p>=0))) Ln
def ZVh (p:PICT):Bool:=getO ZnX.Df (Zxr p).val
def ZLt (p:PICT):Bool:=okB (Zxr p).val
def ZXY:En:=Zi ZLl ZnX (λa=>some (ZLt a)) (λa=>ZVh a)
theorem ZQL:Zb prog 199 ZXY:=
 pureP 7 [(268,Ztc)] [] _ _ ⟨Znx,Tv⟩ Tryz.func199 Tryz.call199 trivial
abbrev Znu:List Sh:=[Sh.agg Zb3,So Ka]
def Zta (p:PICT) (l:Int):RT PICT:=
 let x1:=p.2.2.2.2.2.2.2.2.2.2.2.2.2
 .Lf ((p.1,p.2.1,p.2.2.1,p.2.2.2.1,p.2.2.2.2.1,p.2.2.2.2.2.1,p.2.2.2.2.2.2.1,p.2.2.2.2.2.2.2.1,p.2.2.2.2.2.2.2.2.1,p.2.2.2.2.2.2.2.2.2.1,p.2.2.2.2.2.2.2.2.2.2.1,p.2.2.2.2.2.2.2.2.2.2.2.1,l,andI u8 (orI u8 x1.1 (ZT u8 l p.2.2.2.2.2.2.2.2.2.2.2.2.1)) l,x1.2))
def ZAl (p:PICT) (l:Int):PICT:=(Zta p l).val
def ZQK:En:=Zi Znu ZUj (λ_=>none) (λa=>ZAl a.1 a.2)
theorem ZGV:Zb prog 198 ZQK:=
 pureQ 31 [] [] _ _ trivial Tryz.func198 Tryz.call198 trivial
abbrev ZEq:List Sh:=[Sh.agg Zb3,So Kc]
def Zs6 (p:PICT) (x:Int):RT (Option PICT):=
 let x1:=p.2.2.2.2.2.2.2.2.2.2.2.2.2
 let x2:=x1.2
 .br (decide (0<=x)) (.br (decide (0<=x)) (Ls ((p.1,p.2.1,p.2.2.1,p.2.2.2.1,p.2.2.2.2.1,p.2.2.2.2.2.1,p.2.2.2.2.2.2.1,p.2.2.2.2.2.2.2.1,p.2.2.2.2.2.2.2.2.1,p.2.2.2.2.2.2.2.2.2.1,p.2.2.2.2.2.2.2.2.2.2.1,p.2.2.2.2.2.2.2.2.2.2.2.1,p.2.2.2.2.2.2.2.2.2.2.2.2.1,ZT u8 x1.1 (shlI u8 1 x),orI u8 x2.1 (shlI u8 1 x),x2.2))) Ln) Ln
def Zq3 (p:PICT) (x:Int):PICT:=getO ZUj.Df (Zs6 p x).val
def Zku (p:PICT) (x:Int):Bool:=okB (Zs6 p x).val
def ZAi:En:=Zi ZEq ZUj (λa=>some (Zku a.1 a.2)) (λa=>Zq3 a.1 a.2)
theorem Zxq:Zb prog 271 ZAi:=
 pureP 31 [] [] _ _ trivial Tryz.func271 Tryz.call271 trivial
def ZEw (p:PICT) (x:Int):RT (Option PICT):=
 let x1:=p.2.2.2.2.2.2.2.2.2.2.2.2.2
 let x2:=x1.2
 let x3:=x2.2
 let x4:=x3.2
 .br (decide (0<=x)) (Ls ((p.1,p.2.1,p.2.2.1,p.2.2.2.1,p.2.2.2.2.1,p.2.2.2.2.2.1,p.2.2.2.2.2.2.1,p.2.2.2.2.2.2.2.1,p.2.2.2.2.2.2.2.2.1,p.2.2.2.2.2.2.2.2.2.1,p.2.2.2.2.2.2.2.2.2.2.1,p.2.2.2.2.2.2.2.2.2.2.2.1,p.2.2.2.2.2.2.2.2.2.2.2.2.1,x1.1,ZT u8 x2.1 (shlI u8 1 x),x3.1,bif p.2.2.2.2.2.2.2.2.1 then x else x4.1,x4.2))) Ln
def ZGW (p:PICT) (x:Int):PICT:=getO ZUj.Df (ZEw p x).val
def Zq4 (p:PICT) (x:Int):Bool:=okB (ZEw p x).val
def ZLw:En:=Zi ZEq ZUj (λa=>some (Zq4 a.1 a.2)) (λa=>ZGW a.1 a.2)
theorem ZEv:Zb prog 272 ZLw:=
 pureP 31 [] [] _ _ trivial Tryz.func272 Tryz.call272 trivial
def ZAo (p:PICT) (v:Int):RT PICT:=
 let x1:=p.2.2.2.2.2.2.2.2.2.2.2.2.2
 let x2:=x1.2
 let x3:=x2.2
 let x4:=x3.1
 .Lf ((bif p.1==2 then bif p.2.2.2.1 then bif p.2.2.2.2.1 then 4 else 0 else 3 else bif p.1==3 then bif p.2.2.2.2.1 then 4 else 0 else bif p.1==4 then 0 else p.1,p.2.1,p.2.2.1,p.2.2.2.1,p.2.2.2.2.1,p.2.2.2.2.2.1,bif p.1==2 then v else p.2.2.2.2.2.2.1,bif p.1==2 then p.2.2.2.2.2.2.2.1 else bif p.1==3 then p.2.2.2.2.2.2.2.1 else bif p.1==4 then andI u8 v 2 !=0 else p.2.2.2.2.2.2.2.1,p.2.2.2.2.2.2.2.2.1,p.2.2.2.2.2.2.2.2.2.1,p.2.2.2.2.2.2.2.2.2.2.1,p.2.2.2.2.2.2.2.2.2.2.2.1,p.2.2.2.2.2.2.2.2.2.2.2.2.1,x1.1,x2.1,bif p.1==2 then x4 else bif p.1==3 then x4 else bif p.1==4 then x4 else v,x3.2))
def ZEz (p:PICT) (v:Int):PICT:=(ZAo p v).val
def ZLy:En:=Zi Znu ZUj (λ_=>none) (λa=>ZEz a.1 a.2)
theorem ZLx:Zb prog 274 ZLy:=
 pureQ 35655743 [] [] _ _ trivial Tryz.func274 Tryz.call274 trivial
def Zxs (p:PICT) (v:Int):RT (Option PICT):=
 let x1:=p.2.2.2.2.2.2.2.2.2.2.2.2.2
 let x2:=x1.2
 let x3:=x2.1
 let x4:=x2.2
 let x5:=x4.1
 let x6:Int:=bif p.2.2.2.2.2.2.2.2.2.1 then ZT u8 x3 x5 else x3
 let x7:=x4.2
 let x8:=x7.1
 let x9:=bif shrI u8 v 5==1 then shrI u8 v 5==1 else shrI u8 v 5==5
 let x10:=Zjj x6 x8
 let x11:=decide (x10<0)
 let p1:=x11::(!x9)::(shrI u8 v 5==4)::(shrI u8 v 5==0)::[]
 let x12:= !shrI u8 v 5==3||decide (0<=i64.wrap (andI u8 v 7))
 let p2:=(!shrI u8 v 5==7)::(shrI u8 v 5==3)::(!x12)::x9::(shrI u8 v 5==4)::(shrI u8 v 5==0)::[]
 let x13:=ZT u8 x3 (shlI u8 1 (i64.wrap (andI u8 v 7)))
 .br (Zir x6 x8) (.br (orR p1 (decide (0<=x10))) (.br (orR p2 (decide (0<=i64.wrap (andI u8 v 7)))) (.br (shrI u8 v 5==0||(shrI u8 v 5==4||(x9||x12))) (Ls ((p.1,p.2.1,p.2.2.1,p.2.2.2.1,p.2.2.2.2.1,p.2.2.2.2.2.1,p.2.2.2.2.2.2.1,p.2.2.2.2.2.2.2.1,!shrI u8 v 5==0&&(shrI u8 v 5==4||p.2.2.2.2.2.2.2.2.1),p.2.2.2.2.2.2.2.2.2.1,p.2.2.2.2.2.2.2.2.2.2.1,p.2.2.2.2.2.2.2.2.2.2.2.1,p.2.2.2.2.2.2.2.2.2.2.2.2.1,x1.1,bif shrI u8 v 5==0 then x3 else bif shrI u8 v 5==4 then x3 else bif x9 then bif x11 then x3 else ZT u8 x3 (shlI u8 1 x10) else bif shrI u8 v 5==3 then x13 else bif shrI u8 v 5==7 then x13 else x3,x5,bif shrI u8 v 5==0 then x8 else bif shrI u8 v 5==4 then x8 else bif x9 then bif x11 then x8 else bif shrI u8 v 5==5 then x10 else x8 else bif shrI u8 v 5==3 then x8 else bif shrI u8 v 5==7 then i64.wrap (andI u8 v 7) else bif shrI u8 v 5==6 then i64.wrap (andI u8 v 7) else x8,x7.2))) Ln) Ln) Ln) Ln
def ZQN (p:PICT) (v:Int):PICT:=getO ZUj.Df (Zxs p v).val
def ZEA (p:PICT) (v:Int):Bool:=okB (Zxs p v).val
def ZTh:En:=Zi Znu ZUj (λa=>some (ZEA a.1 a.2)) (λa=>ZQN a.1 a.2)
theorem ZQM:Zb prog 275 ZTh:=
 pureP 36929657684375896319 [(346,ZAf)] [] _ _ ⟨Zxo,Tv⟩ Tryz.func275 Tryz.call275 trivial
abbrev Znr:List Sh:=[Sh.agg Zb3,So R.bool,So Ka]
def Zjk (p:PICT) (h:Bool) (v:Int):RT (Option PICT):=
 .br (h||(andI u8 v 16 !=0||(!andI u8 v 8==0||ZEA p v))) (.br (h) (Ls (ZEz p v)) (.br (andI u8 v 16 !=0) (Ls ((2,andI u8 v 8 !=0,andI u8 v 4 !=0,andI u8 v 2 !=0,andI u8 v 1 !=0,andI u8 v 224,0,false,false,false,false,false,p.2.2.2.2.2.2.2.2.2.2.2.2.1,0,0,0,7,0,0,false))) (.br (andI u8 v 8==0) (Ls (ZQN p v)) (Ls ((p.1,p.2.1,p.2.2.1,p.2.2.2.1,p.2.2.2.2.1,p.2.2.2.2.2.1,p.2.2.2.2.2.2.1,p.2.2.2.2.2.2.2.1,p.2.2.2.2.2.2.2.2.1,bif andI u8 v 64 !=0 then andI u8 v 32 !=0 else p.2.2.2.2.2.2.2.2.2.1,bif andI u8 v 2 !=0 then andI u8 v 1 !=0 else p.2.2.2.2.2.2.2.2.2.2.1,andI u8 v 4 !=0||p.2.2.2.2.2.2.2.2.2.2.2.1,p.2.2.2.2.2.2.2.2.2.2.2.2)))))) Ln
def ZAh (p:PICT) (h:Bool) (v:Int):PICT:=getO ZUj.Df (Zjk p h v).val
def Zs5 (p:PICT) (h:Bool) (v:Int):Bool:=okB (Zjk p h v).val
def ZQJ:En:=Zi Znr ZUj (λa=>some (Zs5 a.1 a.2.1 a.2.2)) (λa=>ZAh a.1 a.2.1 a.2.2)
theorem ZGS:Zb prog 207 ZQJ:=
 pureP 4398046519807 [(99,ZEu),(274,ZLy),(275,ZTh)] [] _ _ ⟨ZEt,ZLx,ZQM,Tv⟩ Tryz.func207 Tryz.call207 trivial
abbrev Zs8:List Sh:=[Sh.agg Zb3,So R.bool]
def Znt (p:PICT) (h:Bool):RT (Option (PICT×Int)):=
 let x1:= !p.2.2.2.2.2.2.2.2.2.2.2.1
 let x2:PICT:=(p.1,p.2.1,p.2.2.1,p.2.2.2.1,p.2.2.2.2.1,p.2.2.2.2.2.1,p.2.2.2.2.2.2.1,p.2.2.2.2.2.2.2.1,p.2.2.2.2.2.2.2.2.1,p.2.2.2.2.2.2.2.2.2.1,p.2.2.2.2.2.2.2.2.2.2.1,false,p.2.2.2.2.2.2.2.2.2.2.2.2)
 let x3:=h||(x1||Zkv x2)
 let x4:= !x3
 let x5:=Za3 x2
 let x6:=decide (x5<0)
 let p1:=x6::x1::h::x4::[]
 let x7:=Zku x2 x5
 let x8:=Zq3 x2 x5
 let x9:=x8.2
 let x10:=x9.2
 let x11:=x10.2
 let x12:=x11.2
 let x13:=x12.2
 let x14:=x13.2
 let x15:=x14.2
 let x16:=x15.1
 let p2:=(!x16)::(!x7)::p1
 let x17:=p.2.2.2.2.2.2.2.2.2.2.2.2.2.2
 let x18:=ZGW x8 x5
 .br (orR p2 (Zq4 x8 x5)) (.br (orR p1 x7) (.br (x3) (.br (h) (Ls ((p,x17.2.1))) (.br p.2.2.2.2.2.2.2.2.2.2.2.1 (.br (x6) (Ls ((x2,0))) (Ls (((R.sel Zb3 x16 x18 x8),u8.wrap (128+u8.wrap x5))))) (.br p.2.2.2.2.2.2.2.2.2.2.1 (Ls ((p,x17.1))) (Ls ((p,ZGT p)))))) Ln) Ln) Ln
def ZLq (p:PICT) (h:Bool):PICT×Int:=getO ZUg.Df (Znt p h).val
def ZAj (p:PICT) (h:Bool):Bool:=okB (Znt p h).val
def ZVf:En:=Zi Zs8 ZUg (λa=>some (ZAj a.1 a.2)) (λa=>ZLq a.1 a.2)
theorem ZLp:Zb prog 205 ZVf:=
 pureP 8589938943 [(268,Ztc),(271,ZAi),(272,ZLw),(273,ZLo)] [] _ _ ⟨Znx,Zxq,ZEv,ZEr,Tv⟩ Tryz.func205 Tryz.call205 trivial
def Zxt (p:PICT):RT (Option (PICT×Int)):=
 let x1:=p.2.2.2.2.2.2.2.2.2.2.2.2.2
 let x2:=x1.2
 let x3:=x2.2
 let x4:=x3.2
 let x5:=x4.2
 let x6:=x5.1
 let x7:=x6==0
 let x8:= !x7
 let x9:=x8||Zkv p
 let x10:=p.2.2.2.2.2.2.2.2.2.2.2.2.1
 let x11:=x1.1
 let x12:=x2.1
 let x13:=x3.1
 let x14:=x4.1
 let x15:=x5.2
 let x16:=x15.1
 let x17:PICT:=(p.1,p.2.1,p.2.2.1,p.2.2.2.1,p.2.2.2.2.1,p.2.2.2.2.2.1,p.2.2.2.2.2.2.1,p.2.2.2.2.2.2.2.1,p.2.2.2.2.2.2.2.2.1,p.2.2.2.2.2.2.2.2.2.1,p.2.2.2.2.2.2.2.2.2.2.1,p.2.2.2.2.2.2.2.2.2.2.2.1,x10,x11,x12,x13,x14,x6,x16,decide (Za3 p<0))
 let x18:=Zq3 x17 (Za3 p)
 let x19:=x18.2
 let x20:=x19.2
 let x21:=x20.2
 let x22:=x21.2
 let x23:=x22.2
 let x24:=x23.2
 let x25:=x24.2
 let x26:=x25.2
 let x27:=x26.2
 let x28:=x27.2
 let x29:=x28.2
 let x30:=x29.2
 let x31:=x30.2
 let x32:=x31.2
 let x33:=x32.2
 let x34:=x33.2
 let x35:PICT:=(p.1,p.2.1,p.2.2.1,p.2.2.2.1,p.2.2.2.2.1,p.2.2.2.2.2.1,p.2.2.2.2.2.2.1,p.2.2.2.2.2.2.2.1,p.2.2.2.2.2.2.2.2.1,p.2.2.2.2.2.2.2.2.2.1,p.2.2.2.2.2.2.2.2.2.2.1,p.2.2.2.2.2.2.2.2.2.2.2.1,x10,x11,x12,x13,x14,2,x15)
 let x36:=andI i64 x16 7
 let x37:=x15.2
 let x38:=p.2.2.2.2.2.2.2.1&& !x37
 let x39:PICT:=(p.1,p.2.1,p.2.2.1,p.2.2.2.1,p.2.2.2.2.1,p.2.2.2.2.2.1,p.2.2.2.2.2.2.1,p.2.2.2.2.2.2.2.1,p.2.2.2.2.2.2.2.2.1,p.2.2.2.2.2.2.2.2.2.1,p.2.2.2.2.2.2.2.2.2.2.1,p.2.2.2.2.2.2.2.2.2.2.2.1,x10,x11,x12,x13,x14,0,x15)
 let x40:=ZGW x39 x36
 let x41:=x40.2
 let x42:=x41.2
 let x43:=x42.2
 let x44:=x43.2
 let x45:=x44.2
 let x46:=x45.2
 let x47:Int:=bif x38 then x46.1 else p.2.2.2.2.2.2.1
 let x48:=x46.2
 let x49:=x48.2
 let x50:=x49.2
 let x51:=x50.2
 let x52:=x51.2
 let x53:=x52.2
 let x54:=x53.2
 let x55:=x54.2
 let x56:=x55.2
 let x57:=x56.2
 let x58:=x57.2
 let x59:=x58.2
 .br (!x9||(x8||(decide (Za3 p<0)||Zku x17 (Za3 p)))) (.br (x9) (.br (x7) (Ls (((bif decide (Za3 p<0) then p.1 else x18.1,bif decide (Za3 p<0) then p.2.1 else x19.1,bif decide (Za3 p<0) then p.2.2.1 else x20.1,bif decide (Za3 p<0) then p.2.2.2.1 else x21.1,bif decide (Za3 p<0) then p.2.2.2.2.1 else x22.1,bif decide (Za3 p<0) then p.2.2.2.2.2.1 else x23.1,bif decide (Za3 p<0) then p.2.2.2.2.2.2.1 else x24.1,bif decide (Za3 p<0) then p.2.2.2.2.2.2.2.1 else x25.1,bif decide (Za3 p<0) then p.2.2.2.2.2.2.2.2.1 else x26.1,bif decide (Za3 p<0) then p.2.2.2.2.2.2.2.2.2.1 else x27.1,bif decide (Za3 p<0) then p.2.2.2.2.2.2.2.2.2.2.1 else x28.1,bif decide (Za3 p<0) then p.2.2.2.2.2.2.2.2.2.2.2.1 else x29.1,bif decide (Za3 p<0) then x10 else x30.1,bif decide (Za3 p<0) then x11 else x31.1,bif decide (Za3 p<0) then x12 else x32.1,bif decide (Za3 p<0) then x13 else x33.1,bif decide (Za3 p<0) then x14 else x34.1,1,bif decide (Za3 p<0) then 7 else Za3 p,bif decide (Za3 p<0) then decide (Za3 p<0) else x34.2.2.2),205))) (.br (x6==1) (.br p.2.2.1 (Ls ((x35,u8.wrap (andI u8 p.2.2.2.2.2.1 224+u8.wrap (i64.wrap (4*x36)))))) (Ls ((x35,u8.wrap (andI u8 p.2.2.2.2.2.1 192+u8.wrap (i64.wrap (8*x36))))))) (.br (!x38||Zq4 x39 x36) (Ls (((bif x38 then x40.1 else p.1,bif x38 then x41.1 else p.2.1,bif x38 then x42.1 else p.2.2.1,bif x38 then x43.1 else p.2.2.2.1,bif x38 then x44.1 else p.2.2.2.2.1,bif x38 then x45.1 else p.2.2.2.2.2.1,x47,bif x38 then x48.1 else p.2.2.2.2.2.2.2.1,bif x38 then x49.1 else p.2.2.2.2.2.2.2.2.1,bif x38 then x50.1 else p.2.2.2.2.2.2.2.2.2.1,bif x38 then x51.1 else p.2.2.2.2.2.2.2.2.2.2.1,bif x38 then x52.1 else p.2.2.2.2.2.2.2.2.2.2.2.1,bif x38 then x53.1 else x10,bif x38 then x54.1 else x11,bif x38 then x55.1 else x12,bif x38 then x56.1 else x13,bif x38 then x57.1 else x14,bif x38 then x58.1 else 0,bif x38 then x59.1 else x16,bif x38 then x59.2 else x37),x47))) Ln))) Ln) Ln
def ZVi (p:PICT):PICT×Int:=getO ZUg.Df (Zxt p).val
def ZLA (p:PICT):Bool:=okB (Zxt p).val
def ZXZ:En:=Zi ZLl ZUg (λa=>some (ZLA a)) (λa=>ZVi a)
theorem ZQO:Zb prog 203 ZXZ:=
 pureP 134219839 [(268,Ztc),(271,ZAi),(272,ZLw)] [] _ _ ⟨Znx,Zxq,ZEv,Tv⟩ Tryz.func203 Tryz.call203 trivial
abbrev ZCU:List Sh:=[Sh.agg (R.Pq Kb (R.Pq Ka Kc))]
def ZPa (d:QT3):RT (Bool):=
 .Lf (decide (d.2.2>0))
def ZSz (d:QT3):Bool:=(ZPa d).val
def ZTX:En:=Zi ZCU ZnX (λ_=>none) (λa=>ZSz a)
theorem ZF5:Zb prog 141 ZTX:=
 pureQ 7 [] [] _ _ trivial Tryz.func141 Tryz.call141 trivial
abbrev Zvl:List Sh:=[Sh.agg (R.Pq Kb (R.Pq Ka Kc)),So Kc]
def ZCW (d:QT3) (r:Int):RT (Int):=
 .br (andI i64 r 3==0) (.Lf (u8.wrap d.1)) (.br (andI i64 r 3==1) (.Lf (u8.wrap (shrI u16 d.1 8))) (.br (andI i64 r 3==2) (.Lf d.2.1) (.Lf (u8.wrap d.2.2))))
def ZF6 (d:QT3) (r:Int):Int:=(ZCW d r).val
def ZWW:En:=Zi Zvl ZNl (λ_=>none) (λa=>ZF6 a.1 a.2)
theorem ZPb:Zb prog 206 ZWW:=
 pureQ 266399 [] [] _ _ trivial Tryz.func206 Tryz.call206 trivial
abbrev ZpK:List Sh:=[Sh.agg (R.Pq Kb (R.Pq Ka Kc)),So Kc,So Ka]
abbrev ZpL:Rs:=Rs.one (Sh.agg (R.Pq Kb (R.Pq Ka Kc)))
def Zvk (d:QT3) (r:Int) (v:Int):RT (QT3):=
 .Lf ((bif andI i64 r 3==0 then orI u16 (andI u16 d.1 65280) (u16.wrap v) else bif andI i64 r 3==1 then orI u16 (andI u16 d.1 255) (shlI u16 (u16.wrap v) 8) else d.1,bif andI i64 r 3==0 then d.2.1 else bif andI i64 r 3==1 then d.2.1 else bif andI i64 r 3==2 then v else d.2.1,bif andI i64 r 3==0 then d.2.2 else bif andI i64 r 3==1 then d.2.2 else bif andI i64 r 3==2 then d.2.2 else bif andI i64 r 3==3 then i64.wrap v else d.2.2))
def ZCQ (d:QT3) (r:Int) (v:Int):QT3:=(Zvk d r v).val
def ZSx:En:=Zi ZpK ZpL (λ_=>none) (λa=>ZCQ a.1 a.2.1 a.2.2)
theorem ZIJ:Zb prog 208 ZSx:=
 pureQ 4563665535 [] [] _ _ trivial Tryz.func208 Tryz.call208 trivial
abbrev ZCS:Rs:=Rs.tup [Sh.agg (R.Pq Kb (R.Pq Ka Kc)),Sh.agg (R.Pq Kb Ka),So R.bool]
def ZO8 (d:QT3):RT ((QT3)×(Int×Int)×Bool):=
 .br (!ZSz d) (.Lf (((0,0,0),(0,0),false))) (.Lf (((u16.wrap (d.1+1),d.2.1,i64.wrap (d.2.2-1)),(d.1,d.2.1),true)))
def ZWV (d:QT3):(QT3)×(Int×Int)×Bool:=(ZO8 d).val
def ZYI:En:=Zi ZCU ZCS (λ_=>none) (λa=>ZWV a)
theorem ZSy:Zb prog 142 ZYI:=
 pureQ 63 [(141,ZTX)] [] _ _ ⟨ZF5,Tv⟩ Tryz.func142 Tryz.call142 trivial
def mapG {α β:Type} (φ:α->β):Go1 α->Go1 β
 | .cont a=>.cont (φ a)
 | .brk a=>.brk (φ a)
 | .ret a=>.ret (φ a)
theorem ZDE {α β:Type} (φ:α->β) {f:α->Option (Go1 α)} {g:β->Option (Go1 β)} (h:∀a,g (φ a)=(f a).map (mapG φ)):∀(n:Nat) (a:α),runL g n (φ a)=(runL f n a).map λr=>(r.1,φ r.2)
 |0,a=>rfl
 |n+1,a=>by
  unfold runL;rw[h a];cases hf:f a with
  |none=>rfl
  |some r=>cases r with
   |cont a'=>exact ZDE φ h n a'
   |brk a'=>rfl
   |ret a'=>rfl
theorem ZDG {β:Type} (φ:α->β) {f:α->RT (Option (Go1 α))} {g:β->RT (Option (Go1 β))} (h:∀a,(g (φ a)).val=((f a).val).map (mapG φ)) (fl:Bool) (n:Nat) (a:α):
  runF fl g (λ_=>n) (φ a)=(runF fl f (λ_=>n) a).map λr=>(r.1,φ r.2):=by
 unfold runF;rw[ZDE φ h n a];cases runL (λa=>(f a).val) n a with
 |none=>rfl
 |some r=>obtain⟨b,d⟩:=r;cases fl<;>cases b<;>rfl
theorem ZIA:(List.range 256).all (λs=>(List.range 8).all λk=>(Ziq (s:Int) (k:Int)).val==some (Zc0 (s:Int) (k:Int))&&ZiN (s:Int) (k:Int))=true:=by kernel_rfl
theorem Zzh (k:Int):andI .i64 (andI .i64 k 7) 7=andI .i64 k 7:=by
 obtain⟨h0,h1⟩:=and7 k;generalize andI .i64 k 7=v at*;have:v=0\/v=1\/v=2\/v=3\/v=4\/v=5\/v=6\/v=7:=by omega
 rcases this with rfl|rfl|rfl|rfl|rfl|rfl|rfl|rfl<;>decide
def phiK (a:QT27):QT27:=(a.1,andI .i64 a.2.1 7,a.2.2)
theorem ZQG (s k:Int):(Ziq s k).val=(Ziq s (andI .i64 k 7)).val:=by
 have h:=ZDG phiK (f:=Zdt) (g:=Zdt) (by
  rintro⟨s,k,r,i,u⟩;simp only[Zdt,phiK,RT.val,Zzh]
  cases h3:(andI u8 (shrI u8 s (andI i64 (i64.wrap (andI i64 k 7+i)) 7)) 1==1)<;>by_cases h1:i<=8<;>by_cases h2:0<=andI i64 (i64.wrap (andI i64 k 7+i)) 7<;>simp[h1,h2,mapG,phiK]) true 9 (s,k,0,1,())
 have h':runF true Zdt (λ_=>9) (s,andI .i64 k 7,0,1,())=(runF true Zdt (λ_=>9) (s,k,0,1,())).map λr=>(r.1,phiK r.2):=h
 simp only[Ziq,RT.val,h'];cases runF true Zdt (λ_=>9) (s,k,0,1,()) with
 |none=>rfl
 |some r=>obtain⟨b,d⟩:=r;cases b<;>rfl
theorem ZUh (l k:Int):Zda l (andI .i64 k 7)=Zda l k:=by simp only[Zda,ZJc,RT.val,Zzh]
theorem ZJf (s k:Int):(Zld s k).val=(Zld s (andI .i64 k 7)).val:=by
 have h:=ZDG phiK (f:=Zdq) (g:=Zdq) (by
  rintro⟨s,k,r,i,u⟩;simp only[Zdq,phiK,RT.val,ZUh]
  cases h3:vOnC s i<;>by_cases h1:i<8<;>by_cases q1:r<0<;>by_cases q2:Zda i k<Zda r k<;>cases vOn s i<;>simp[h1,q1,q2,mapG,phiK]) false 9 (s,k,-1,0,())
 have h':runF false Zdq (λ_=>9) (s,andI .i64 k 7,-1,0,())=(runF false Zdq (λ_=>9) (s,k,-1,0,())).map λr=>(r.1,phiK r.2):=h
 simp only[Zld,RT.val,h'];cases runF false Zdq (λ_=>9) (s,k,-1,0,()) with
 |none=>rfl
 |some r=>rfl
theorem ZCF (s k:Int) (hs:inR .u8 s):Zir s k=true/\ZiN s k=true/\Zjj s k=Zc0 s k:=by
 obtain⟨h0,h1⟩:=and7 k;rw[Zhb] at hs;obtain⟨a,rfl⟩:∃a:Nat,s=(a:Int):=⟨s.toNat,by omega⟩;obtain⟨b,hb⟩:∃b:Nat,andI .i64 k 7=(b:Int):=⟨(andI .i64 k 7).toNat,by omega⟩;have key:=YT.1 (YT.1 ZIA a (by simp;omega)) b (by simp;omega);simp only[Yc,Yaj] at key;obtain⟨k1,k2⟩:=key;have e1:=ZQG (a:Int) k;have e2:=ZJf (a:Int) k;rw[hb] at e1 e2;rw[k1] at e1;have e3:Zc0 (a:Int) k=Zc0 (a:Int) (b:Int):=by simp only[Zc0,e2]
 have e4:ZiN (a:Int) k=true:=by simp only[ZiN,e2];exact k2
 refine⟨by simp only[Zir,e1,okB],e4,?_⟩;simp only[Zjj,e1,getO,e3]
theorem ZUW (l k:Int):Zxn l k=Zda l k:=by
 simp only[Zxn,ZAd,Zda,ZJc,RT.val];obtain⟨a0,a1⟩:=and7 l;obtain⟨b0,b1⟩:=and7 k;generalize andI .i64 l 7=a at*;generalize andI .i64 k 7=b at*;obtain⟨x,rfl⟩:∃x:Nat,a=(x:Int):=⟨a.toNat,by omega⟩;obtain⟨y,rfl⟩:∃y:Nat,b=(y:Int):=⟨b.toNat,by omega⟩;have key:(List.range 8).all (λx=>(List.range 8).all λy=>andI i64 (i64.wrap (i64.wrap ((x:Int)-(y:Int))+7)) 7==andI i64 (i64.wrap (i64.wrap ((x:Int)-(y:Int))+15)) 7)=true:=by kernel_rfl
 have:=YT.1 (YT.1 key x (by simp;omega)) y (by simp;omega);simpa using this
theorem ZEp (r m s k:Int) (p:Bool) (hs:inR .u8 s):Zs2 r m s k p=true/\ZmG r m s k p=true/\ZEn r m s k p=ZvR r m s k p:=by
 obtain⟨a1,a2,a3⟩:=ZCF (ZT u8 r m) k (Zar _ _);have hb:inR .u8 (ZcN m s p):=by
  cases p
  ·simpa [ZcN,ZmI,RT.val] using hs
  ·have:ZcN m s true=ZT u8 s m:=by simp[ZcN,ZmI,RT.val]
   rw[this];exact Zar _ _
 have eb:(bif p then ZT u8 s m else s)=ZcN m s p:=by cases p<;>simp[ZcN,ZmI,RT.val]
 obtain⟨b1,b2,b3⟩:=ZCF (ZcN m s p) k hb;have h1:(Znq r m s k p).val=(ZgC r m s k p).val:=by
  simp only[Znq,ZgC,RT.val,eb,a1,a2,b1,b2,a3,b3,ZUW,Ya,Yk];generalize Zc0 (ZT u8 r m) k=x;generalize Zc0 (ZcN m s p) k=y;by_cases q1:x<0
  ·have:¬x>=0:=by omega
   simp[q1,this]
  ·have q1':x>=0:=by omega
   by_cases q2:y<0
   ·have:¬y>=0:=by omega
    simp[q1,q1',q2,this]
   ·have q2':y>=0:=by omega
    by_cases q3:Zda x k<Zda y k
    ·have:¬Zda x k>=Zda y k:=by omega
     simp[q1,q1',q2,q2',q3,this]
    ·have q3':Zda x k>=Zda y k:=by omega
     simp[q1,q1',q2,q2',q3,q3']
 have h2:ZmG r m s k p=true:=by simp only[ZmG,ZgC,RT.val,a2,b2,Ya];cases (decide (Zc0 (ZT u8 r m) k>=0)&&(decide (Zc0 (ZcN m s p) k<0)||decide (Zda (Zc0 (ZT u8 r m) k) k<Zda (Zc0 (ZcN m s p) k) k)))<;>rfl
 refine⟨?_,h2,by simp only[ZEn,ZvR,h1]⟩;simp only[Zs2,h1];exact h2
theorem ZKu (p:PICT):ZGT p=vReq p:=by simp only[ZGT,ZLm,vReq,ZUf,RT.val]
theorem ZQq (p:PICT) (l:Int):ZAl p l=Zfc p l:=by simp only[ZAl,Zta,Zfc,ZJd,RT.val]
theorem ZLJ (p:PICT) (hs:inR .u8 p.2.2.2.2.2.2.2.2.2.2.2.2.2.2.1):Zkv p=true/\ZrX p=true/\Za3 p=vPck p:=by
 obtain⟨h1,h2,h3⟩:=ZEp (vReq p) p.2.2.2.2.2.2.2.2.2.2.2.2.2.2.2.1 p.2.2.2.2.2.2.2.2.2.2.2.2.2.2.1 p.2.2.2.2.2.2.2.2.2.2.2.2.2.2.2.2.1 p.2.2.2.2.2.2.2.2.2.1 hs;have e1:(Zny p).val=some (ZvR (vReq p) p.2.2.2.2.2.2.2.2.2.2.2.2.2.2.2.1 p.2.2.2.2.2.2.2.2.2.2.2.2.2.2.1 p.2.2.2.2.2.2.2.2.2.2.2.2.2.2.2.2.1 p.2.2.2.2.2.2.2.2.2.1):=by simp only[Zny,RT.val,ZKu,h1,h3,Ya]
 have e2:(ZvS p).val=some (ZvR (vReq p) p.2.2.2.2.2.2.2.2.2.2.2.2.2.2.2.1 p.2.2.2.2.2.2.2.2.2.2.2.2.2.2.1 p.2.2.2.2.2.2.2.2.2.2.2.2.2.2.2.2.1 p.2.2.2.2.2.2.2.2.2.1):=by simp only[ZvS,RT.val,h2,Ya]
 exact⟨by simp only[Zkv,e1,okB],by simp only[ZrX,e2,okB],by simp only[Za3,vPck,e1,e2]⟩
theorem ZTP (p:PICT) (hs:inR .u8 p.2.2.2.2.2.2.2.2.2.2.2.2.2.2.1):ZLt p=true/\ZXe p=true/\ZVh p=vInt p:=by
 obtain⟨h1,h2,h3⟩:=ZEp (vReq p) p.2.2.2.2.2.2.2.2.2.2.2.2.2.2.2.1 p.2.2.2.2.2.2.2.2.2.2.2.2.2.2.1 p.2.2.2.2.2.2.2.2.2.2.2.2.2.2.2.2.1 p.2.2.2.2.2.2.2.2.2.1 hs;obtain⟨g1,g2,g3⟩:=ZLJ p hs;have e2:(ZJe p).val=some (decide (vPck p>=0)):=by simp only[ZJe,RT.val,g2,Ya]
 have e1:(Zxr p).val=some (decide (vPck p>=0)):=by simp only[Zxr,RT.val,g1,g3,ZKu,h1,h3,Ya]
 exact⟨by simp only[ZLt,e1,okB],by simp only[ZXe,e2,okB],by simp only[ZVh,vInt,e1,e2]⟩
theorem ZO6 (d):ZSz d=Z3 d:=by simp only[ZSz,ZPa,Z3,ZvP,RT.val]
theorem ZO5 (d:QT3) (r v:Int):ZCQ d r v=ZdA d r v:=by
 obtain⟨h0,h3⟩:=and3 r;simp only[ZCQ,Zvk,ZdA,ZDe,RT.val];generalize andI .i64 r 3=q at*;have:q=0\/q=1\/q=2\/q=3:=by omega
 rcases this with rfl|rfl|rfl|rfl<;>simp
theorem ZWU (d):ZWV d=ZbK d:=by simp only[ZWV,ZO8,ZbK,Zkb,RT.val,ZO6]
theorem ZSv (d:QT3) (r:Int):ZJb d r=true/\ZF6 d r=ZmF d r:=by
 obtain⟨h0,h3⟩:=and3 r;have hv:(ZrV d r).val=some (ZF6 d r):=by
  simp only[ZrV,ZF6,ZCW,RT.val];generalize andI .i64 r 3=q at*;have:q=0\/q=1\/q=2\/q=3:=by omega
  rcases this with rfl|rfl|rfl|rfl<;>simp[iN,Le]
 exact⟨by simp only[ZJb,hv,okB],by simp only[ZmF,hv,getO]⟩
theorem ZP3 (p:PICT) (x:Int):Zs6 p x=ZvO p x:=rfl
theorem ZJT (p:PICT) (x:Int):Zq3 p x=ZGs p x/\Zku p x=ZhZ p x:=by simp only[Zq3,ZGs,Zku,ZhZ,ZP3];exact⟨trivial,Tv⟩
theorem ZWM (p:PICT) (x:Int):ZEw p x=ZDi p x:=rfl
theorem ZTT (p:PICT) (x:Int):ZGW p x=ZJg p x/\Zq4 p x=ZiO p x:=by simp only[ZGW,ZJg,Zq4,ZiO,ZWM];exact⟨trivial,Tv⟩
theorem ZWZ (p:PICT) (v:Int):ZEz p v=ZrY p v:=by simp only[ZEz,ZAo,ZrY,ZvV,RT.val];cases p.2.2.2.1<;>rfl
theorem ZS0 (p:PICT) (x:Int):Zq3 p x=ZGs p x:=(ZJT p x).1
theorem ZSZ (p:PICT) (x:Int):Zku p x=ZhZ p x:=(ZJT p x).2
theorem ZYE (p:PICT) (x:Int):ZGW p x=ZJg p x:=(ZTT p x).1
theorem ZYD (p:PICT) (x:Int):Zq4 p x=ZiO p x:=(ZTT p x).2
theorem ZW7 (p:PICT) (hs:inR .u8 p.2.2.2.2.2.2.2.2.2.2.2.2.2.2.1):(Zxt p).val=(ZJh p).val:=by
 obtain⟨g1,g2,g3⟩:=ZLJ p hs;have hd:decide (vPck p>=0)= !decide (vPck p<0):=by
  by_cases h:vPck p<0
  ·have:¬vPck p>=0:=by omega
   simp[h,this]
  ·have:vPck p>=0:=by omega
   simp[h,this]
 simp only[Zxt,ZJh,RT.val,g1,g2,g3,ZS0,ZSZ,ZYE,ZYD,hd];cases h:decide (vPck p<0)
 ·have h0:decide (0<=vPck p)=true:=by simp at h|-;omega
  simp only[ZGs,ZhZ,ZvO,RT.val,h0,getO,okB,Yf,Ym,Ya,Yb,Yt,Yh]
 ·simp only[Yf,Ym,Ya,Yb,Yt,Yh]
theorem ZT8 (p:PICT) (hs:inR .u8 p.2.2.2.2.2.2.2.2.2.2.2.2.2.2.1):ZVi p=vAck p/\ZLA p=ZPS p:=by simp only[ZVi,vAck,ZLA,ZPS,ZW7 p hs];exact⟨trivial,Tv⟩
theorem ZYr (x:Int):decide (x>=0)= !decide (x<0):=by by_cases h:x<0<;>simp[h]<;>omega
theorem ZYt (x:Int):decide (0<=x)= !decide (x<0):=by by_cases h:x<0<;>simp[h]<;>omega
theorem ZRF (p:PICT) (v:Int) (hs:inR .u8 p.2.2.2.2.2.2.2.2.2.2.2.2.2.2.1):(Zxs p v).val=(ZvT p v).val:=by
 have eb:(bif p.2.2.2.2.2.2.2.2.2.1 then ZT u8 p.2.2.2.2.2.2.2.2.2.2.2.2.2.2.1 p.2.2.2.2.2.2.2.2.2.2.2.2.2.2.2.1 else p.2.2.2.2.2.2.2.2.2.2.2.2.2.2.1)=ZcN p.2.2.2.2.2.2.2.2.2.2.2.2.2.2.2.1 p.2.2.2.2.2.2.2.2.2.2.2.2.2.2.1 p.2.2.2.2.2.2.2.2.2.1:=by cases p.2.2.2.2.2.2.2.2.2.1<;>simp[ZcN,ZmI,RT.val]
 have hb:inR .u8 (ZcN p.2.2.2.2.2.2.2.2.2.2.2.2.2.2.2.1 p.2.2.2.2.2.2.2.2.2.2.2.2.2.2.1 p.2.2.2.2.2.2.2.2.2.1):=by
  rw[<-eb];cases p.2.2.2.2.2.2.2.2.2.1
  ·exact hs
  ·exact Zar _ _
 obtain⟨h1,h2,h3⟩:=ZCF _ p.2.2.2.2.2.2.2.2.2.2.2.2.2.2.2.2.1 hb;have h4:decide (0<=IntKind.wrap .i64 (andI .u8 v 7))=true:=by have:=ZYO v;rw[wrap_i64 _ (by omega) (by omega)];exact Yr this.1
 simp only[Zxs,ZvT,RT.val,eb,h1,h2,h3,h4,ZYr,ZYt,Zb6,Zbe,Yk,Yf,Yae,Bool.not_not,Yz,Yh,Ya,Yb];generalize shrI u8 v 5=w;generalize Zc0 _ _=t;by_cases w0:w=0
 ·subst w0;rfl
 by_cases w1:w=1
 ·subst w1;cases decide (t<0)<;>rfl
 by_cases w3:w=3
 ·subst w3;rfl
 by_cases w4:w=4
 ·subst w4;rfl
 by_cases w5:w=5
 ·subst w5;cases decide (t<0)<;>rfl
 by_cases w6:w=6
 ·subst w6;rfl
 by_cases w7:w=7
 ·subst w7;rfl
 have e0:(w==0)=false:=by simpa using w0
 have e1:(w==1)=false:=by simpa using w1
 have e3:(w==3)=false:=by simpa using w3
 have e4:(w==4)=false:=by simpa using w4
 have e5:(w==5)=false:=by simpa using w5
 have e6:(w==6)=false:=by simpa using w6
 have e7:(w==7)=false:=by simpa using w7
 rw[e0,e1,e3,e4,e5,e6,e7];rfl
theorem ZWb (p:PICT) (v:Int) (hs:inR .u8 p.2.2.2.2.2.2.2.2.2.2.2.2.2.2.1):ZQN p v=ZUk p v/\ZEA p v=ZvU p v:=by simp only[ZQN,ZUk,ZEA,ZvU,ZRF p v hs];exact⟨trivial,Tv⟩
theorem ZI0 (p:PICT) (h:Bool) (v:Int) (hs:inR .u8 p.2.2.2.2.2.2.2.2.2.2.2.2.2.2.1):(Zjk p h v).val=(ZmD p h v).val:=by obtain⟨h1,h2⟩:=ZWb p v hs;have hf:ZmH p v=(2,andI u8 v 8 !=0,andI u8 v 4 !=0,andI u8 v 2 !=0,andI u8 v 1 !=0,andI u8 v 224,0,false,false,false,false,false,p.2.2.2.2.2.2.2.2.2.2.2.2.1,0,0,0,7,0,0,false):=rfl;simp only[Zjk,ZmD,RT.val,h1,h2,hf,ZWZ,Bool.or_comm (andI u8 v 4 !=0)]
theorem ZC7 (p:PICT) (h:Bool) (v:Int) (hs:inR .u8 p.2.2.2.2.2.2.2.2.2.2.2.2.2.2.1):ZAh p h v=ZmE p h v/\Zs5 p h v=ZrU p h v:=by simp only[ZAh,ZmE,Zs5,ZrU,ZI0 p h v hs];exact⟨trivial,Tv⟩
def ZrZ (p:PICT):PICT:=(p.1,p.2.1,p.2.2.1,p.2.2.2.1,p.2.2.2.2.1,p.2.2.2.2.2.1,p.2.2.2.2.2.2.1,p.2.2.2.2.2.2.2.1,p.2.2.2.2.2.2.2.2.1,p.2.2.2.2.2.2.2.2.2.1,p.2.2.2.2.2.2.2.2.2.2.1,false,p.2.2.2.2.2.2.2.2.2.2.2.2)
theorem Zqp (p:PICT):vPck (ZrZ p)=vPck p/\ZrX (ZrZ p)=ZrX p:=⟨rfl,rfl⟩
theorem ZQI (x:Int) (h0: -1<=x) (h1:x<=7):IntKind.wrap .u8 (128+IntKind.wrap .u8 x)=IntKind.wrap .u8 (IntKind.wrap .i64 (128+x)):=by
 have:x= -1\/x=0\/x=1\/x=2\/x=3\/x=4\/x=5\/x=6\/x=7:=by omega
 rcases this with rfl|rfl|rfl|rfl|rfl|rfl|rfl|rfl|rfl<;>decide
theorem ZQm (p:PICT) (h:Bool) (hs:inR .u8 p.2.2.2.2.2.2.2.2.2.2.2.2.2.2.1):(Znt p h).val=(ZvQ p h).val:=by obtain⟨g1,g2,g3⟩:=ZLJ (ZrZ p) hs;rw[(Zqp p).1] at g3;rw[(Zqp p).2] at g2;obtain⟨_,a1,a2⟩:=ZrW p;have hx:(p.1,p.2.1,p.2.2.1,p.2.2.2.1,p.2.2.2.2.1,p.2.2.2.2.2.1,p.2.2.2.2.2.2.1,p.2.2.2.2.2.2.2.1,p.2.2.2.2.2.2.2.2.1,p.2.2.2.2.2.2.2.2.2.1,p.2.2.2.2.2.2.2.2.2.2.1,false,p.2.2.2.2.2.2.2.2.2.2.2.2)=ZrZ p:=rfl;simp only[Znt,ZvQ,RT.val,hx,g1,g2,g3,ZS0,ZSZ,ZYE,ZYD,ZKu,ZQI _ a1 a2,Zb6,Zbe,Yk,Yf,Yh]
theorem ZKx (p:PICT) (h:Bool) (hs:inR .u8 p.2.2.2.2.2.2.2.2.2.2.2.2.2.2.1):ZLq p h=Zp7 p h/\ZAj p h=ZDg p h:=by simp only[ZLq,Zp7,ZAj,ZDg,ZQm p h hs];exact⟨trivial,Tv⟩
theorem Zln {p:PICT} (h:okHL ZLl p):inR .u8 p.2.2.2.2.2.2.2.2.2.2.2.2.2.2.1:=h.2.2.2.2.2.2.2.2.2.2.2.2.2.2.1
def ZAm:En:=Zi ZLl ZnX (λ_=>none) (λa=>vInt a)
theorem ZLu:Zb prog 199 ZAm:=ZQL.tot (λa h=>by have:=(ZTP a (Zln h)).1;simp[this]) (λa h=>(ZTP a (Zln h)).2.2)
def Znw:En:=Zi Znu ZUj (λ_=>none) (λa=>Zfc a.1 a.2)
theorem ZAk:Zb prog 198 Znw:=ZGV.tot (λa h=>by simp) (λa h=>ZQq _ _)
def Zns:En:=Zi Znr ZUj (λ_=>none) (λa=>ZmE a.1 a.2.1 a.2.2)
theorem ZAg:Zb prog 207 Zns:=ZGS.tot (λa h=>by have h1:=(ZC7 a.1 a.2.1 a.2.2 (Zln h.1)).2;have h2:=ZJa a.1 a.2.1 a.2.2;rw[h2] at h1;simp[h1]) (λa h=>(ZC7 a.1 a.2.1 a.2.2 (Zln h.1)).1)
def Zs9:En:=Zi Zs8 ZUg (λ_=>none) (λa=>Zp7 a.1 a.2)
theorem ZGU:Zb prog 205 Zs9:=ZLp.tot (λa h=>by have h1:=(ZKx a.1 a.2 (Zln h.1)).2;have h2:=ZPP a.1 a.2;rw[h2] at h1;simp[h1]) (λa h=>(ZKx a.1 a.2 (Zln h.1)).1)
def ZAr:En:=Zi ZLl ZUg (λ_=>none) (λa=>vAck a)
theorem ZLB:Zb prog 203 ZAr:=ZQO.tot (λa h=>by have h1:=(ZT8 a (Zln h)).2;have h2:=ZUp a;rw[h2] at h1;simp[h1]) (λa h=>(ZT8 a (Zln h)).1)
def ZpN:En:=Zi ZCU ZnX (λ_=>none) (λa=>Z3 a)
theorem Zy4:Zb prog 141 ZpN:=ZF5.tot (λa h=>by simp) (λa h=>ZO6 _)
def Zvn:En:=Zi Zvl ZNl (λ_=>none) (λa=>ZmF a.1 a.2)
theorem ZIK:Zb prog 206 Zvn:=ZPb.tot (λa h=>by simp) (λa h=>(ZSv _ _).2)
def ZpM:En:=Zi ZpK ZpL (λ_=>none) (λa=>ZdA a.1 a.2.1 a.2.2)
theorem ZCP:Zb prog 208 ZpM:=ZIJ.tot (λa h=>by simp) (λa h=>ZO5 _ _ _)
def ZCT:En:=Zi ZCU ZCS (λ_=>none) (λa=>ZbK a)
theorem ZO9:Zb prog 142 ZCT:=ZSy.tot (λa h=>by simp) (λa h=>ZWU _)
def Zvq:En:=Zi [.one (.sl (R.Pq Kb Ka))] (.one (.one (.sl (R.Pq Kb Ka)))) (λl=>some (Nat.ble l.length most)) (λl=>l)
theorem ZIL:Zb prog 98 Zvq:=
 ZRG (P:=prog) (n:=15) (k:=8) (l:=[]) (ol:=[]) trivial Tryz.func98 rfl (by kernel_rfl) Tryz.call98 trivial (r:=R.Pq (R.int u16) (R.int u8)) (rs:=.one (.one (.sl (R.Pq (R.int u16) (R.int u8))))) (pre:=λl=>Nat.ble l.length most) (F:=λl=>l) (by kernel_rfl)
  (λl h=>by
   have e:(evOf (envX prog [] [] 15 8) Tryz.f98 (.one (.one (.sl (R.Pq (R.int u16) (R.int u8))))) [.w (.one (.lst (R.Pq (R.int u16) (R.int u8)) false false true l))]).val=cond (Nat.ble ([]++l).length most) (some ([]++l)) none:=by kernel_rfl
   rw[e,List.nil_append,h];rfl)
abbrev Zy9:List Sh:=[Sh.agg (R.Pq Kc (R.Pq rcRG (R.Pq Kc (R.Pq Ka (R.Pq Ka (R.Pq R.bool rcCE))))))]
def Zj7 (b:BRDT):RT (Option (Int)):=
 .br (b.1 !=1&&b.1 !=2) (Ls (1)) (.br (smG b.2.1) (.br (Zbt b.2.1 !=0) (Ls (Zbt b.2.1)) (.br (decide (b.2.2.1<0)||(decide (b.2.2.1>100)||smC b.2.2.2.2.2.2)) (.br (decide (b.2.2.1<0)||(decide (b.2.2.1>100)|| !vldB b.2.2.2.2.2.2)) (Ls (1)) (Ls (0))) Ln)) Ln)
def ZiE (b:BRDT):Int:=getO ZTs.Df (Zj7 b).val
def Zj8 (b:BRDT):Bool:=okB (Zj7 b).val
def Zvu:En:=Zi Zy9 ZTs (λa=>some (Zj8 a)) (λa=>ZiE a)
theorem ZIN:Zb Tryz.prog 50 Zvu:=
 pureP 15 [(102,ZxB),(103,ZFA)] [] _ _ ⟨ZAB,ZIn,Tv⟩ Tryz.func50 Tryz.call50 trivial
theorem ZPw (b:BRDT):(Zj7 b).val=(Zeb b).val:=by simp only[Zj7,Zeb,RT.val]
theorem ZIO (b:BRDT):ZiE b=ZbZ b/\Zj8 b=Zmu b:=by simp only[ZiE,ZbZ,Zj8,Zmu,ZPw];exact⟨trivial,Tv⟩
theorem ZRO (k:Int):(bif k==1 then k==1 else bif k==2 then k==2 else bif k==3 then k==3 else bif k==4 then k==4 else k==5)=(decide (k>=1)&&decide (k<=5)):=by
 by_cases h1:k=1
 ·subst h1;rfl
 by_cases h2:k=2
 ·subst h2;rfl
 by_cases h3:k=3
 ·subst h3;rfl
 by_cases h4:k=4
 ·subst h4;rfl
 by_cases h5:k=5
 ·subst h5;rfl
 have e1:(k==1)=false:=by simpa using h1
 have e2:(k==2)=false:=by simpa using h2
 have e3:(k==3)=false:=by simpa using h3
 have e4:(k==4)=false:=by simpa using h4
 have e5:(k==5)=false:=by simpa using h5
 rw[e1,e2,e3,e4,e5];simp;omega
theorem ZP9 (c:CORT):(c.2.2.2.2.1==7)=(Zm c==7):=by
 have:Zm c=ZX c.2.2.2.2.1:=rfl;rw[this];unfold ZX;cases h:decide (c.2.2.2.2.1<1)||decide (c.2.2.2.2.1>9)
 ·rfl
 ·simp at h;have:(c.2.2.2.2.1==7)=false:=by simp;omega
  rw[this];rfl
theorem ZlK (s:SYST):(bif s.1.2.2.2.2.1==7 then i64.wrap (s.2.2.2.2.1+1) else 0)=Za4 s:=by unfold Za4 ZlL;rw[ZP9];simp only[RT.val,bne];cases Zm s.1==7<;>rfl
theorem ZQS {p q:Int} (hp:inR .u8 p) (hq:inR .u8 q):(decide (IntKind.wrap .u8 (p-q)<2)=(p==q||p==IntKind.wrap .u8 (q+1)))/\(decide (IntKind.wrap .u8 (p-q)<2)=true->(IntKind.wrap .u8 (p-q)==1)=(p==IntKind.wrap .u8 (q+1))):=by
 rw[Zhb] at hp hq;have e1:IntKind.wrap .u8 (p-q)=(p-q)%256:=Zj9 _;have e2:IntKind.wrap .u8 (q+1)=(q+1)%256:=Zj9 _;rw[e1,e2];refine⟨?_,λh=> ?_⟩
 ·rw[Bool.eq_iff_iff];simp only[Yi,YJ,Yaj];omega
 ·rw[Bool.eq_iff_iff];simp only[Yaj];simp only[Yi] at h;omega
theorem Zyz (n:Int):(if (if 100<n then 100 else n)>0 then if 100<n then 100 else n else 0)=Znf n:=by unfold Znf ZKP;simp only[RT.val]
theorem ZB6 (b:BRDT) (x:TY) (hg:smG b.2.1=true):Zmy b x=bif decide (x.1>=1)&&decide (x.1<=5) then Zgy b.2.1 x.2.1 else bif x.1==6||x.1==7 then Znf b.2.2.1 else 0:=by
 have hv:(ZI3 b x).val=some (bif decide (x.1>=1)&&decide (x.1<=5) then Zgy b.2.1 x.2.1 else bif x.1==6||x.1==7 then Znf b.2.2.1 else 0):=by
  unfold ZI3;simp only[RT.val,hg,Yk,Ya];cases decide (x.1>=1)&&decide (x.1<=5)
  ·cases x.1==6||x.1==7<;>rfl
  ·rfl
 simp only[Zmy,hv,getO]
theorem ZJQ (d:QT3):ZbK d=bif Z3 d then ((IntKind.wrap .u16 (d.1+1),d.2.1,IntKind.wrap .i64 (d.2.2-1)),(d.1,d.2.1),true) else ((0,0,0),(0,0),false):=by unfold ZbK Zkb;simp only[RT.val];cases Z3 d<;>rfl
theorem pstR (c:CORT):ZbN c=Zm c:=rfl
theorem bus_p (b:BRDT) (t:SYST) (i:INPT) (x5 x20 x71 x72:Bool) (h5:x5=(!i.2.2.1&&(Zm t.1==3&&Zaz t.1.2.2.2.1.1))) (h20:x20=(t.1.2.2.2.1.1==8||t.1.2.2.2.1.1==9)) (hq:x71=(Zec b (IntKind.wrap .u8 t.1.2.2.2.1.2.1)).2) (hq2:x71=true->x72=(Zec b (IntKind.wrap .u8 t.1.2.2.2.1.2.1)).1) (hj:b.2.2.2.2.2.1=true->x71=false):
  busS b t i=((t.1,t.2.1,(bif x5 then bif decide (t.1.2.2.2.1.1>=1)&&decide (t.1.2.2.2.1.1<=5) then t.2.2.1 else bif x20 then (bif !b.2.2.2.2.2.1 then (vAck t.2.2.1).1 else t.2.2.1) else bif x71 then (Zp7 t.2.2.1 x72).1 else t.2.2.1 else t.2.2.1),t.2.2.2),
   bif x5 then bif decide (t.1.2.2.2.1.1>=1)&&decide (t.1.2.2.2.1.1<=5) then ZeS b.2.1 t.2.1 t.1.2.2.2.1.2.1 else bif x20 then (bif !b.2.2.2.2.2.1 then (vAck t.2.2.1).2 else i.2.2.2.2.2.2.2.2.2) else bif x71 then (Zp7 t.2.2.1 x72).2 else bif (Zgz b (IntKind.wrap .u8 t.1.2.2.2.1.2.1)).2 then ZmF t.2.2.2.1 (Zgz b (IntKind.wrap .u8 t.1.2.2.2.1.2.1)).1 else i.2.2.2.2.2.2.2.2.2 else 0):=by
 unfold busS;dsimp only;have e:(i.2.2.1||(Zm t.1 !=3|| !Zaz t.1.2.2.2.1.1))= !x5:=by rw[h5,bne];cases i.2.2.1<;>cases Zm t.1==3<;>cases Zaz t.1.2.2.2.1.1<;>rfl
 rw[e];cases hx:x5
 ·rfl
 ·simp only[Yf,Ya,Yb];cases hm:decide (t.1.2.2.2.1.1>=1)&&decide (t.1.2.2.2.1.1<=5)
  ·simp only[Yb];have h6:(t.1.2.2.2.1.1 !=6)=x20:=by
    rw[h5] at hx;simp only[Yc] at hx;have hr:=hx.2.2;unfold Zaz ZsG at hr;simp only[RT.val] at hr;simp at hr hm;rw[h20];have:t.1.2.2.2.1.1=6\/t.1.2.2.2.1.1=8\/t.1.2.2.2.1.1=9:=by omega
    rcases this with h|h|h<;>rw[h]<;>rfl
   rw[h6,<-hq];cases x20
   ·simp only[YX,Yb];cases hz:x71
    ·simp only[Yb];cases (Zgz b (IntKind.wrap .u8 t.1.2.2.2.1.2.1)).2<;>rfl
    ·simp only[Ya];rw[hq2 hz]
   ·simp only[YN,Ya];cases b.2.2.2.2.2.1<;>rfl
  ·rfl
theorem ZTN (b:BRDT) (p:Int):Zec b p=(p==IntKind.wrap .u8 (b.2.2.2.1+1),!b.2.2.2.2.2.1&&(p==b.2.2.2.1||p==IntKind.wrap .u8 (b.2.2.2.1+1))):=by unfold Zec Zzn;simp only[RT.val];cases b.2.2.2.2.2.1<;>cases p==b.2.2.2.1<;>rfl
theorem ZTO (b:BRDT) (p:Int):Zgz b p=(IntKind.wrap .i64 (IntKind.wrap .u8 (p-b.2.2.2.2.1)),decide (IntKind.wrap .u8 (p-b.2.2.2.2.1)<4)):=by unfold Zgz Zzo;simp only[RT.val]
theorem ZPe (w x y:Int) (a:Bool):decide (w>=bif a then x else y)=bif a then decide (w>=x) else decide (w>=y):=by cases a<;>rfl
theorem ZWr (b:BRDT) (s:SYST) (i:INPT) (hg:smG b.2.1=true):Zag b (Zn b s i) i=(i.1&&(bif decide (s.1.2.2.2.1.1>=1)&&decide (s.1.2.2.2.1.1<=5) then decide (Za4 s>=Zgy b.2.1 s.1.2.2.2.1.2.1) else bif s.1.2.2.2.1.1==6||s.1.2.2.2.1.1==7 then decide (Za4 s>=Znf b.2.2.1) else decide (Za4 s>=0)),
  i.2.1||Z3 s.2.2.2.1,i.2.2.1,i.2.2.2.1,i.2.2.2.2.1,i.2.2.2.2.2.1,i.2.2.2.2.2.2.1,i.2.2.2.2.2.2.2.1,bif b.2.2.2.2.2.1 then andI .u8 i.2.2.2.2.2.2.2.2.1 1==1 else vInt (Zfc s.2.2.1 i.2.2.2.2.2.2.2.2.1)):=by
 unfold Zag;have e1:Za4 (Zn b s i)=Za4 s:=rfl;have e2:(Zn b s i).1=s.1:=rfl;have e3:(Zn b s i).2.2.2.1=s.2.2.2.1:=rfl;rw[e1,e2,e3,ZB6 b _ hg,ZPe,ZPe];have e4:(Zn b s i).2.2.1=bif !b.2.2.2.2.2.1 then Zfc s.2.2.1 i.2.2.2.2.2.2.2.2.1 else s.2.2.1:=rfl
 rw[e4];cases b.2.2.2.2.2.1<;>simp only[Ya,Yb,Yf,Ym]
def inpX (a b c k:Int):INPT:=bif k !=ZhY a b c then Zl else
 (andI u8 a 1==0,andI u8 a 2 !=0,andI u8 a 4 !=0,andI u8 a 8 !=0,andI u8 a 16 !=0,andI u8 a 32 !=0,andI u8 a 64 !=0,andI u8 a 128 !=0,b,c)
def decX:List Int->List INPT
 |a::b::c::k::l=>inpX a b c k::decX l
 |_=>[]
theorem drop4 (l:List Int) (i:Nat) (h:i+4<=l.length):l.drop i=R.get (R.int .u8) l (i:Int)::R.get (R.int .u8) l ((i+1:Nat):Int)::R.get (R.int .u8) l ((i+2:Nat):Int)::R.get (R.int .u8) l ((i+3:Nat):Int)::l.drop (i+4):=by
 have hg:∀j:Nat,(hj:j<l.length)->R.get (R.int .u8) l (j:Int)=l[j]:=λj hj=>by simp[R.get,hj]
 rw[Yab (by omega:i<l.length),Yab (by omega:i+1<l.length),Yab (by omega:i+1+1<l.length),Yab (by omega:i+1+1+1<l.length)];rw[hg i (by omega),hg (i+1) (by omega),hg (i+2) (by omega),hg (i+3) (by omega)]
theorem ZPc {l:List Int} (h:l.length<4):decX l=[]:=by
 match l with
 |[]=>rfl
 |[_]=>rfl
 |[_,_]=>rfl
 |[_,_,_]=>rfl
 |_::_::_::_::_=>simp at h;omega
theorem dec_len:∀l:List Int,(decX l).length=l.length/4
 |a::b::c::k::l=>by have:=dec_len l;simp only[decX,List.length_cons,this];omega
 |[]=>by simp[decX]
 |[_]=>by simp[decX]
 |[_,_]=>by simp[decX]
 |[_,_,_]=>by simp[decX]
theorem ZF7:∀(n:Nat) (l:List Int),decX (l.take (4*n))=(decX l).take n
 |0,l=>by simp[decX]
 |n+1,l=>by
  match l with
  |[]=>simp[decX]
  |[_]=>simp[decX,YaI]
  |[_,_]=>simp[decX,YaI]
  |[_,_,_]=>simp[decX,YaI]
  |a::b::c::k::l=>
   have:=ZF7 n l;have e:4*(n+1)=4*n+4:=by omega
   rw[e];simp only[List.take_succ_cons,decX,this]
theorem ZSh (b:BRDT) (s0:TC) (st:STT) (l r:List INPT):ZbO b s0 st (l++r)=ZbO b s0 (ZbO b s0 st l) r:=YaL ..
theorem ZCK (b:BRDT) (s0:TC):∀(l:List INPT) (st:STT),∃t,(ZbO b s0 st l).2.1=st.2.1++t/\t.length=l.length
 |[],st=>⟨[],by simp[ZbO],rfl⟩
 |i::l,st=>by obtain⟨t,h,hl⟩:=ZCK b s0 l (ZaN b s0 st i);refine⟨(ZL b st.1 i).2.1::t,?_,by simp[hl]⟩;show (ZbO b s0 (ZaN b s0 st i) l).2.1=_;rw[h];show (st.2.1++[(ZL b st.1 i).2.1])++t=_;simp
theorem ZWR (cp:List TC) (s0:TC) (c a:CORT) (l:LINT) (d:Int) (moved:Bool):∃t,evC cp s0 c a l d moved=cp++t:=by
 unfold evC;dsimp only;cases l.2.2.1
 ·cases (finS c l d).2<;>cases moved<;>simp only[Ya,Yb]
  ·exact⟨[],by simp⟩
  ·exact⟨_,rfl⟩
  ·exact⟨_,rfl⟩
  ·exact⟨_,by rw[Yl]⟩
 ·cases ZdU c<;>simp only[Ya,Yb]
  ·exact⟨_,rfl⟩
  ·exact⟨_,by rw[Yl]⟩
theorem ZOO (b:BRDT) (s0:TC):∀(l:List INPT) (st:STT),∃t,(ZbO b s0 st l).2.2.2.2=st.2.2.2.2++t
 |[],st=>⟨[],by simp[ZbO]⟩
 |i::l,st=>by obtain⟨t,h⟩:=ZOO b s0 l (ZaN b s0 st i);obtain⟨t',h'⟩:=ZWR st.2.2.2.2 s0 st.1.1 (ZL b st.1 i).1.1 (ZL b st.1 i).2.2.1 (ZL b st.1 i).2.2.2.1 (ZL b st.1 i).2.2.2.2.2;refine⟨t'++t,?_⟩;show (ZbO b s0 (ZaN b s0 st i) l).2.2.2.2=_;rw[h];show evC _ _ _ _ _ _ _++t=_;rw[h',Yl]
def NoO (ev:List EVTT):Prop:=∀e∈ev,e.1≠7
variable {ev:List EVTT}
theorem NoO.snoc (h:NoO ev) {e:EVTT} (he:e.1≠7):NoO (ev++[e]):=λx hx=>by
 rcases Y5.1 hx with hx|hx
 ·exact h x hx
 ·rw[Y9] at hx;subst hx;exact he
theorem ZFM (s:Int):ZhS s≠7:=by
 unfold ZhS ZDa;simp only[RT.val];cases Zd s
 ·cases s==5<;>simp
 ·simp
theorem ZYG (h:NoO ev) (c:CORT) (l:LINT) (d:Int) (cell:Cell) (moved:Bool):NoO (evE ev c l d cell moved):=by
 have hw:∀(e:EVTT) (p:TC),e.1≠7->(Zid e p l).1≠7:=λe p he=>he
 unfold evE;dsimp only;cases l.2.2.1
 ·cases (finS c l d).2<;>cases moved<;>simp only[Ya,Yb]
  ·exact h
  ·exact h.snoc (by simp)
  ·exact h.snoc (hw _ _ (ZFM _))
  ·exact (h.snoc (hw _ _ (ZFM _))).snoc (by simp)
 ·cases ZdU c<;>simp only[Ya,Yb]
  ·exact h.snoc (hw _ _ (by simp))
  ·exact (h.snoc (hw _ _ (by simp))).snoc (hw _ _ (by simp))
theorem ZOM (b:BRDT) (s0:TC):∀(l:List INPT) (st:STT),NoO st.2.2.2.1->NoO (ZbO b s0 st l).2.2.2.1
 |[],st,h=>h
 |i::l,st,h=>ZOM b s0 l (ZaN b s0 st i) (ZYG h _ _ _ _ _)
