import Derived.Test.YtpnjbfjomebppaaGreatIsaQ
open Go.IntKind (u8 u16 i64)
open Go Go.S3 Go.Proofs Go.Proofs.Cells
set_option linter.unusedVariables false
set_option linter.unusedSimpArgs false
set_option maxRecDepth 100000
namespace Go.Proofs.YtpnjbfjomebppaaGreat
noncomputable section
theorem smCb {l:List Cell} (h:l.length<=1000000):smC l=true:=ZaE (by have:=mst;omega)
theorem smGb {l:List ZG} (h:l.length<=1000000):smG l=true:=ZaE (by have:=mst;omega)
def Zn (b:BRDT) (s:SYST) (i:INPT):SYST:=(s.1,s.2.1,(bif !b.2.2.2.2.2.1 then Zfa s.2.2.1 i.2.2.2.2.2.2.2.2.1 else s.2.2.1),s.2.2.2)
def ZaK (b:BRDT) (s:SYST) (i:INPT):LINT:=
 (i.1&&decide (ZcH s>=ZU0 b s.1.2.2.2.1),i.2.1||Zag s.2.2.2.1,i.2.2.1,i.2.2.2.1,i.2.2.2.2.1,i.2.2.2.2.2.1,i.2.2.2.2.2.2.1,i.2.2.2.2.2.2.2.1,
  bif b.2.2.2.2.2.1 then andI .u8 i.2.2.2.2.2.2.2.2.1 1==1 else vInt s.2.2.1)
def busS (b:BRDT) (s:SYST) (i:INPT):SYST×Int:=
 let x:=s.1.2.2.2.1
 let q:=Ze9 b (IntKind.wrap .u8 x.2.1)
 let d:=ZiE b (IntKind.wrap .u8 x.2.1)
 bif i.2.2.1||(Zp s.1 !=3|| !ZaS x.1) then (s,0) else
 bif decide (x.1>=1)&&decide (x.1<=5) then (s,Zge b.2.1 s.2.1 x.2.1) else
 bif x.1 !=6&&b.2.2.2.2.2.1 then (s,i.2.2.2.2.2.2.2.2.2) else
 bif x.1 !=6 then ((s.1,s.2.1,(vAck s.2.2.1).1,s.2.2.2),(vAck s.2.2.1).2) else
 bif q.2 then ((s.1,s.2.1,(Zql s.2.2.1 q.1).1,s.2.2.2),(Zql s.2.2.1 q.1).2) else
 bif d.2 then (s,ZmJ s.2.2.2.1 d.1) else (s,i.2.2.2.2.2.2.2.2.2)
def Zm0 (b:BRDT) (s:SYST) (x:TY):SYST:=
 let q:=Ze9 b (IntKind.wrap .u8 x.2.1)
 let d:=ZiE b (IntKind.wrap .u8 x.2.1)
 bif x.1 !=7 then (s.1,ZaL b.2.1 s.2.1 x.2.1 x.2.2.1,s.2.2) else
 (s.1,s.2.1,(bif q.2 then ZmI s.2.2.1 q.1 x.2.2.1 else s.2.2.1),(bif q.2 then s.2.2.2.1 else bif d.2 then Zic s.2.2.2.1 d.1 x.2.2.1 else s.2.2.2.1),s.2.2.2.2.1,
  s.2.2.2.2.2++[(IntKind.wrap .u8 x.2.1,x.2.2.1)])
def ZVy (p:PICT) (n:Int):PICT:=
 (p.1,p.2.1,p.2.2.1,p.2.2.2.1,p.2.2.2.2.1,p.2.2.2.2.2.1,p.2.2.2.2.2.2.1,p.2.2.2.2.2.2.2.1,p.2.2.2.2.2.2.2.2.1,p.2.2.2.2.2.2.2.2.2.1,p.2.2.2.2.2.2.2.2.2.2.1,p.2.2.2.2.2.2.2.2.2.2.2.1,
  p.2.2.2.2.2.2.2.2.2.2.2.2.1,p.2.2.2.2.2.2.2.2.2.2.2.2.2.1,p.2.2.2.2.2.2.2.2.2.2.2.2.2.2.1,p.2.2.2.2.2.2.2.2.2.2.2.2.2.2.2.1,p.2.2.2.2.2.2.2.2.2.2.2.2.2.2.2.2.1,n,p.2.2.2.2.2.2.2.2.2.2.2.2.2.2.2.2.2.2)
def ZhQ (p:PINT):Bool:=p.2.2.2.2.2.2.2.2.2.2.2.2.2.2.2.1
def Zgp (s:SYST) (i:INPT):Bool:= !i.2.2.1&&(Zp s.1==3&&ZbY s.1.2.2.2.1.1)
def ZjU (b:BRDT) (s:SYST) (i:INPT):SYST:=
 let t:=Zn b s i
 let u:=busS b t i
 ((Zk u.1.1 (ZaK b t i) u.2),u.1.2.1,u.1.2.2.1,u.1.2.2.2.1,ZcH t,u.1.2.2.2.2.2)
def ZcM (b:BRDT) (s:SYST) (i:INPT):SYST:=bif Zgp s i then Zm0 b (ZjU b s i) s.1.2.2.2.1 else ZjU b s i
def pinS (b:BRDT) (s:SYST) (i:INPT):PINT:=ZcT (busS b (Zn b s i) i).1.1 (ZaK b (Zn b s i) i) (busS b (Zn b s i) i).2
def Zbf (b:BRDT) (s:SYST) (i:INPT):Bool:=ZhQ (pinS b s i)&&Zag (ZcM b s i).2.2.2.1
def Zh4 (b:BRDT) (s:SYST) (i:INPT):SYST:=
 let w:=ZcM b s i
 bif Zbf b s i then (w.1,ZaL b.2.1 w.2.1 w.2.2.2.1.1 w.2.2.2.1.2.1,w.2.2.1,(IntKind.wrap .u16 (w.2.2.2.1.1+1),w.2.2.2.1.2.1,IntKind.wrap .i64 (w.2.2.2.1.2.2-1)),w.2.2.2.2) else w
def ZqZ (s:SYST) (r:Bool):SYST:=bif r then (s.1,s.2.1,ZVy s.2.2.1 0,(s.2.2.2.1.1,s.2.2.2.1.2.1,0),s.2.2.2.2) else s
def ZW (b:BRDT) (s:SYST) (i:INPT):SYST×PINT×LINT×Int×Cell×Bool:=
 (ZqZ (Zh4 b s i) i.2.2.1,pinS b s i,ZaK b (Zn b s i) i,(busS b (Zn b s i) i).2,
  (bif Zbf b s i then ((ZcM b s i).2.2.2.1.1,(ZcM b s i).2.2.2.1.2.1) else (0,0)),Zbf b s i)
theorem ZhM (b:BRDT) (s:SYST) (i:INPT):(busS b s i).1.1=s.1/\(busS b s i).1.2.1=s.2.1/\(busS b s i).1.2.2.2=s.2.2.2:=by
 unfold busS;dsimp only;cases i.2.2.1||(Zp s.1 !=3|| !ZaS s.1.2.2.2.1.1)
 ·cases decide (s.1.2.2.2.1.1>=1)&&decide (s.1.2.2.2.1.1<=5)
  ·cases s.1.2.2.2.1.1 !=6
   ·cases (Ze9 b (IntKind.wrap .u8 s.1.2.2.2.1.2.1)).2
    ·cases (ZiE b (IntKind.wrap .u8 s.1.2.2.2.1.2.1)).2<;>exact⟨rfl,rfl,rfl⟩
    ·exact⟨rfl,rfl,rfl⟩
   ·cases b.2.2.2.2.2.1<;>exact⟨rfl,rfl,rfl⟩
  ·exact⟨rfl,rfl,rfl⟩
 ·exact⟨rfl,rfl,rfl⟩
theorem ZKs (b:BRDT) (s:SYST) (x:TY):(Zm0 b s x).1=s.1/\(Zm0 b s x).2.1.length<=s.2.1.length+1/\(Zm0 b s x).2.2.2.2.2.length<=s.2.2.2.2.2.length+1:=by
 have:=Ze8 b.2.1 s.2.1 x.2.1 x.2.2.1;unfold Zm0;dsimp only;cases x.1 !=7
 ·exact⟨rfl,by simp only[Yb];omega,by simp only[Yb];simp⟩
 ·exact⟨rfl,by simp only[Ya];omega,by simp only[Ya];omega⟩
theorem ZGE (b:BRDT) (s:SYST) (i:INPT):(ZjU b s i).2.1=s.2.1/\(ZjU b s i).2.2.2.2.2=s.2.2.2.2.2:=by have h:=ZhM b (Zn b s i) i;unfold ZjU;simp only[h.1,h.2.1,h.2.2];exact⟨rfl,rfl⟩
theorem ZJj (b:BRDT) (s:SYST) (i:INPT):(ZcM b s i).1=(ZjU b s i).1/\(ZcM b s i).2.1.length<=s.2.1.length+1/\(ZcM b s i).2.2.2.2.2.length<=s.2.2.2.2.2.length+1:=by
 have h1:=ZGE b s i;have h2:=ZKs b (ZjU b s i) s.1.2.2.2.1;rw[h1.1,h1.2] at h2;unfold ZcM;cases Zgp s i
 ·exact⟨rfl,by simp only[Yb,h1.1];omega,by simp only[Yb,h1.2];omega⟩
 ·exact h2
theorem Zzk (b:BRDT) (s:SYST) (i:INPT):(ZW b s i).1.1=(ZjU b s i).1/\(ZW b s i).1.2.1.length<=s.2.1.length+2/\(ZW b s i).1.2.2.2.2.2.length<=s.2.2.2.2.2.length+1:=by have h1:=ZJj b s i;have h2:=Ze8 b.2.1 (ZcM b s i).2.1 (ZcM b s i).2.2.2.1.1 (ZcM b s i).2.2.2.1.2.1;unfold ZW ZqZ Zh4;dsimp only;cases Zbf b s i<;>cases i.2.2.1<;>simp only[Ya,Yb]<;>exact⟨h1.1,by omega,h1.2.2⟩
def Zbt {α:Type} (l:List α) (f:α->α):List α:=match l.getLast? with
 |some y=>l.dropLast++[f y]
 |none=>[]
variable {α:Type}
theorem Zac (l:List α) (y:α) (f:α->α):Zbt (l++[y]) f=l++[f y]:=by simp[Zbt]
def ZlK (Zal:TC) (l:List TC):TC:=l.getLastD Zal
theorem ZJn (l:List α) (y:α) (h:l.length<=1000000):IntKind.wrap .i64 (iN (l++[y]).length-1)=(l.length:Int):=by simp only[iN,Le,Yd,List.length_cons,List.length_nil];rw[wrap_i64 _ (by omega) (by omega)];omega
theorem ZGk {r:R} (l:List r.den) (y:r.den):R.get r (l++[y]) (l.length:Int)=y:=by simp[R.get]
theorem ZlX (l:List α) (y z:α):setI (l++[y]) (l.length:Int) z=l++[z]:=by simp[setI]
theorem ZD9 (l:List α) (y:α):Zf (l.length:Int) (l++[y]).length=true:=ZT.2 ⟨by omega,by simp;omega⟩
def Zvc (t:Int):Int:=bif t==8 then 2 else bif t==9 then 3 else bif t==10 then 4 else 1
def cycN (c:CORT) (t:Int) (x:TY):TY:=bif t==8 then (0,0,0,0) else bif t==9 then (0,c.1.2.1.2.2.2.2.2.2.2.2.2,0,0) else bif t==10 then (0,0,0,0) else x
def ZCS (c:CORT):Bool:=c.1.2.2.1
def sodC (c:CORT):Bool:=c.1.2.2.2.2.2.2.2.2.2.2.2.2
def ZQ5 (y:ITMT) (k:Int) (c:CORT):Bool:=y.1==k&&(y.2.2.2.2.1==ZCS c&&y.2.2.2.2.2==sodC c)
def ZZd (y:ITMT):ITMT:=(y.1,y.2.1,y.2.2.1,IntKind.wrap .i64 (y.2.2.2.1+1),y.2.2.2.2)
def ZkT (l:List ITMT) (k:Int) (c:CORT) (n:ITMT):List ITMT:=match l.getLast? with
 |some y=>bif ZQ5 y k c then Zbt l ZZd else l++[n]
 |none=>l++[n]
def ZcQ (l:List ITMT) (c:CORT) (x:TY) (t:Int):List ITMT:=
 bif Zvc t !=1 then ZkT l (Zvc t) c (Zvc t,cycN c t x,0,1,ZCS c,sodC c)
 else bif t==1 then l++[(1,cycN c t x,0,1,ZCS c,sodC c)]
 else bif t==7 then Zbt l (λy=>(y.1,cycN c t x,IntKind.wrap .i64 (y.2.2.1+1),y.2.2.2))
 else Zbt l (λy=>(y.1,cycN c t x,y.2.2.1,IntKind.wrap .i64 (y.2.2.2.1+1),y.2.2.2.2))
def Zj8:TC:=(0,(0,0,0,0,0,0,0,(false,false,false,false,false,false,false),0,0),false,false,false,0,false,false,false,false,false,false,false)
def ZdI:LINT:=(false,false,false,false,false,false,false,false,false)
def rdS (c:CORT) (t d:Int):TY×List Int:=bif t !=3 then (c.2.2.2.1,c.2.2.1) else (ZaH c.1 c.2.2.2.1 d,c.2.2.1++[(ZaH c.1 c.2.2.2.1 d).2.2.1])
def finS (c:CORT) (l:LINT) (d:Int):TC×Bool:=
 bif l.2.2.1 then (Zj8,false) else
 bif !Zi5 c.2.2.2.2.1 (rdS c c.2.2.2.2.1 d).1 then (Zj8,false) else
 bif (Zh (Zg c.1 l) c.2.1 (rdS c c.2.2.2.2.1 d).2).2 then (Zj8,false) else (finX (Zg c.1 l) c.2.1 (rdS c c.2.2.2.2.1 d).2 l,true)
def Zb7 (c:CORT) (t d:Int):List Int:=bif t==3 then c.2.2.1++[(Zv c t d).2.2.1] else c.2.2.1
def evE (ev:List EVTT) (c:CORT) (l:LINT) (d:Int) (cell:Cell) (moved:Bool):List EVTT:=
 let e1:=bif (finS c l d).2 then ev++[Ze1 (Zgh c.2.1,c.2.1,Zb7 c (Zp c) d,ZdI,false,false,false,false,0,0) (Zg c.1 l) l] else ev
 bif l.2.2.1 then (bif Zdx c then ev++[Ze1 (6,c.2.1,c.2.2.1,ZdI,false,false,false,false,0,0) c.1 l] else ev)++[Ze1 (4,0,[],ZdI,false,false,false,false,0,0) c.1 l]
 else bif moved then e1++[(5,0,[],ZdI,false,false,false,false,cell)] else e1
def evC (cp:List TC) (Zal:TC) (c:CORT) (after:CORT) (l:LINT) (d:Int) (moved:Bool):List TC:=
 let c1:=bif (finS c l d).2 then cp++[(finS c l d).1] else cp
 bif l.2.2.1 then (bif Zdx c then cp++[ZlK Zal cp] else cp)++[after.1]
 else bif moved then c1++[ZlK Zal cp] else c1
abbrev STT:=SYST×List PINT×List ITMT×List EVTT×List TC
def nowS (s:SYST) (i:INPT):Int:=bif i.2.2.1 then 10 else Zp s.1
def Zas (b:BRDT) (Zal:TC) (st:STT) (i:INPT):STT:=
 let k:=ZW b st.1 i
 (k.1,st.2.1++[k.2.1],ZcQ st.2.2.1 st.1.1 (Zv st.1.1 (nowS st.1 i) k.2.2.2.1) (nowS st.1 i),
  evE st.2.2.2.1 st.1.1 k.2.2.1 k.2.2.2.1 k.2.2.2.2.1 k.2.2.2.2.2,evC st.2.2.2.2 Zal st.1.1 k.1.1 k.2.2.1 k.2.2.2.1 k.2.2.2.2.2)
structure RunOk (b:BRDT) (st:STT) (n:Nat):Prop where
 g:smG b.2.1=true
 m:st.1.2.1.length<=100000+2*n
 o:st.1.2.2.2.2.2.length<=n
 k:st.1.1.2.2.1.length<=n
 t:st.2.1.length<=n
 it:st.2.2.1.length<=n
 ev:st.2.2.2.1.length<=2*n
 cp:st.2.2.2.2.length<=2*n
 ne:st.2.2.1=[]->Zp st.1.1=1
theorem ZI4 (c:CORT) (l:LINT) (d:Int):(Zk c l d).2.2.1.length<=c.2.2.1.length+1:=by
 have he:∀(c:TC) (s:Int) (g:List Int) (h:Bool) (l:LINT),(endX c s g h l).2.2.1.length<=g.length:=by
  intro c s g h l;unfold endX;cases (Zh c s g).2
  ·exact Yr _
  ·exact Ye _
 unfold Zk;dsimp only;cases l.2.2.1
 ·cases ZM c.2.2.2.2.1==1
  ·cases ZM c.2.2.2.2.1==2||ZM c.2.2.2.2.1==7
   ·cases ZM c.2.2.2.2.1==8
    ·cases ZM c.2.2.2.2.1==9
     ·cases ZM c.2.2.2.2.1==3
      ·cases decide (ZM c.2.2.2.2.1<c.2.2.2.1.2.2.2)&& !(ZM c.2.2.2.2.1==6)
       ·exact Yz (he _ _ _ _ _) (YaJ _)
       ·exact YaJ _
      ·cases le3 (ZaH (Zg c.1 l) c.2.2.2.1 d).2.2.2
       ·simp only[Ya,Yb,Yd,List.length_singleton];omega
       ·exact Yz (he _ _ _ _ _) (by simp)
     ·cases ZbI (Zg c.1 l) l==0
      ·exact Yr _
      ·exact YaJ _
    ·exact YaJ _
   ·cases l.1|| !Zq c.2.2.2.1.1<;>exact YaJ _
  ·exact YaJ _
 ·exact Yr _
theorem Zfy (b:BRDT) (s:SYST) (i:INPT):(ZW b s i).1.1=Zk s.1 (ZaK b (Zn b s i) i) (busS b (Zn b s i) i).2:=by rw[(Zzk b s i).1];show Zk (busS b (Zn b s i) i).1.1 _ _=_;rw[(ZhM b (Zn b s i) i).1];rfl
theorem ZIt (l:List α) (f:α->α):(Zbt l f).length=l.length:=by
 rcases Y8 l with rfl|⟨l',y,rfl⟩
 ·rfl
 ·rw[Y4,Zac];simp
theorem ZOV (l:List ITMT) (k:Int) (c:CORT) (n:ITMT):(ZkT l k c n).length<=l.length+1/\ZkT l k c n≠[]:=by
 unfold ZkT;rcases Y8 l with rfl|⟨l',y,rfl⟩
 ·exact⟨by simp,by simp⟩
 ·rw[Y4,List.getLast?_concat];dsimp only;cases ZQ5 y k c
  ·exact⟨by simp,by simp⟩
  ·simp only[Ya];rw[Zac];exact⟨by simp,by simp⟩
theorem ZOW (l:List ITMT) (c:CORT) (x:TY) (t:Int) (h:l=[]->t=1\/t=10):(ZcQ l c x t).length<=l.length+1/\ZcQ l c x t≠[]:=by
 have hj:=ZOV l (Zvc t) c (Zvc t,cycN c t x,0,1,ZCS c,sodC c);have ho:∀f:ITMT->ITMT,l≠[]->(Zbt l f).length<=l.length+1/\Zbt l f≠[]:=λf hl=>by have:=ZIt l f;refine⟨by omega,λe=>hl ?_⟩;rw[e] at this;exact YX.1 this.symm
 unfold ZcQ;cases hk:Zvc t !=1
 ·cases h1:t==1
  ·have hl:l≠[]:=λe=>by
    rcases h e with rfl|rfl
    ·simp at h1
    ·simp[Zvc] at hk
   cases t==7
   ·exact ho _ hl
   ·exact ho _ hl
  ·exact⟨by simp,by simp⟩
 ·exact hj
theorem ZW2 (s:SYST) (i:INPT) (h:Zp s.1=1):nowS s i=1\/nowS s i=10:=by
 unfold nowS;rw[h];cases i.2.2.1
 ·exact .inl rfl
 ·exact .inr rfl
theorem ZXK (ev:List EVTT) (c:CORT) (l:LINT) (d:Int) (cell:Cell) (moved:Bool):(evE ev c l d cell moved).length<=ev.length+2:=by
 unfold evE;dsimp only;cases l.2.2.1
 ·cases (finS c l d).2<;>cases moved<;>simp
 ·cases Zdx c<;>simp
theorem ZXL (cp:List TC) (Zal:TC) (c after:CORT) (l:LINT) (d:Int) (moved:Bool):(evC cp Zal c after l d moved).length<=cp.length+2:=by
 unfold evC;dsimp only;cases l.2.2.1
 ·cases (finS c l d).2<;>cases moved<;>simp
 ·cases Zdx c<;>simp
theorem ZD6 (b:BRDT) (Zal:TC) (st:STT) (i:INPT) (n:Nat) (h:RunOk b st n):RunOk b (Zas b Zal st i) (n+1):=by
 have hc:=Zzk b st.1 i;have hi:=ZOW st.2.2.1 st.1.1 (Zv st.1.1 (nowS st.1 i) (ZW b st.1 i).2.2.2.1) (nowS st.1 i) (λe=>ZW2 st.1 i (h.ne e));refine⟨h.g,?_,?_,?_,?_,?_,?_,?_,?_⟩
 ·have:=h.m;show (ZW b st.1 i).1.2.1.length<=_;omega
 ·have:=h.o;show (ZW b st.1 i).1.2.2.2.2.2.length<=_;omega
 ·have:=h.k;show (ZW b st.1 i).1.1.2.2.1.length<=_;rw[Zfy];have:=ZI4 st.1.1 (ZaK b (Zn b st.1 i) i) (busS b (Zn b st.1 i) i).2;omega
 ·have:=h.t;show (st.2.1++[_]).length<=_;simp;omega
 ·have:=h.it;exact Yz hi.1 (by omega)
 ·have:=h.ev;exact Yz (ZXK _ _ _ _ _ _) (by omega)
 ·have:=h.cp;exact Yz (ZXL _ _ _ _ _ _ _) (by omega)
 ·intro e;exact absurd e hi.2
def ZbU (b:BRDT) (Zal:TC) (st:STT) (l:List INPT):STT:=l.foldl (Zas b Zal) st
theorem Zk5 (b:BRDT) (Zal:TC):∀(l:List INPT) (st:STT) (n:Nat),RunOk b st n->RunOk b (ZbU b Zal st l) (n+l.length)
 |[],st,n,h=>h
 |i::l,st,n,h=>by have:=Zk5 b Zal l (Zas b Zal st i) (n+1) (ZD6 b Zal st i n h);rw[show n+(i::l).length=n+1+l.length by simp;omega];exact this
theorem ZKn (l:List α) (d:α) (i:Nat) (h:i<l.length):l.take (i+1)=l.take i++[l.getD i d]:=by rw[Yay,Ys,Yh h];rfl
def ZaN (b:BRDT):STT:=((wNew b).1,[],[],[],[])
def ZN (b:BRDT):TC:=(wNew b).1.1.1
def ZzA:SYST:=((Zj8,0,[],(0,0,0,0),0,false),[],(0,false,false,false,false,0,0,false,false,false,false,false,0,0,0,0,0,0,0,false),(0,0,0),0,[])
theorem ZmC (b:BRDT) (hg:smG b.2.1=true) (hm:smC b.2.2.2.2.2.2=true):ZmD b=true:=by
 unfold ZmD ZfC;simp only[RT.val,hg,hm,Yi,Ya];cases b.1 !=1&&b.1 !=2
 ·cases ZbO b.2.1 !=0
  ·cases decide (b.2.2.1<0)||(decide (b.2.2.1>100)|| !vldB b.2.2.2.2.2.2)<;>rfl
  ·rfl
 ·rfl
def newS (b:BRDT):SYST:=((((newX b.1).1.1,(0,0,0,0,0,0,0,(false,false,false,false,false,false,false),0,0),false,false,false,(newX b.1).1.2.2.2.2.2.1,false,false,false,false,false,false,false),0,[],(1,0,0,4),1,false),
 normX b.2.2.2.2.2.2,(0,false,false,false,false,0,0,false,false,false,false,false,0,0,0,0,7,0,0,false),(0,0,0),0,[])
theorem Zgq (b:BRDT) (hg:smG b.2.1=true) (hm:b.2.2.2.2.2.2.length<=100000):ZX7 b=true/\(wNew b).2=ZbR b/\((wNew b).2=0->RunOk b (ZaN b) 0/\(wNew b).1.2.1=normX b.2.2.2.2.2.2):=by
 have hc:=smCb (l:=b.2.2.2.2.2.2) (by omega);have hv:(ZGN b).val=some (bif ZbR b !=0 then (ZzA,ZbR b) else ((newS b),0)):=by unfold ZGN;simp only[RT.val,ZmC b hg hc,hc,Ya];cases ZbR b !=0<;>rfl
 refine⟨by simp only[ZX7,hv];rfl,?_,?_⟩
 ·simp only[wNew,hv,getO];cases hx:ZbR b !=0
  ·simp at hx;exact hx.symm
  ·rfl
 ·intro h0;have hx:(ZbR b !=0)=false:=by
   cases hx:ZbR b !=0
   ·rfl
   ·simp only[wNew,hv,getO,hx,Ya] at h0;rw[h0] at hx;simp at hx
  have e:wNew b=((newS b),0):=by simp only[wNew,hv,getO,hx,Yb]
  have hn:=Zcx b.2.2.2.2.2.2;unfold ZaN;rw[e];exact⟨⟨hg,by show (normX b.2.2.2.2.2.2).length<=_;omega,Ye _,Ye _,Ye _,Ye _,Ye _,Ye _,λ_=>rfl⟩,rfl⟩
def endS (Zal:TC) (st:STT):RUNT:=
 (st.2.1,st.2.2.1,bif Zdx st.1.1 then st.2.2.2.1++[(7,st.1.1.2.1,st.1.1.2.2.1,ZdI,false,false,false,false,0,0)] else st.2.2.2.1,bif Zdx st.1.1 then st.2.2.2.2++[ZlK Zal st.2.2.2.2] else st.2.2.2.2,st.1)
def Zco (b:BRDT) (l:List INPT):RUNT×Int:=bif (wNew b).2 !=0 then (([],[],[],[],ZzA),(wNew b).2) else (endS (ZN b) (ZbU b (ZN b) (ZaN b) l),0)
end
end Go.Proofs.YtpnjbfjomebppaaGreat
open Go.Proofs.Tryz (prog)
open Go Go.S3 Go.Proofs
namespace Go.Proofs.YtpnjbfjomebppaaGreat
noncomputable section
abbrev ZaT:R:=R.int u8
abbrev ZaU:Nat:=5
abbrev Zj9:List Sh:=[So (R.sl ZcP)]
def ZzE:LS:={n:=64,Sl:=[(3,.tip 0),(7,.code (So (R.sl ZcP))),(8,.code (So Kc)),(9,.code (So Kc))],Bx:=[],Sg:=[⟨Ka,5,false⟩]}
def Zib (a:List INPT×Int×Int×List Int×PUnit):RT (Option (Go1 (List INPT×Int×Int×List Int×PUnit))):=
 let x1:INPT:=R.get ZcP a.1 a.2.2.1
 let x2:= !x1.1
 let x3:=ZfD x2 0
 let x4:= !x3
 let x5:=x1.2
 let x6:=x5.1
 let x7:=ZfD x6 1
 let x8:= !x7
 let x9:=x5.2
 let x10:=x9.1
 let x11:=ZfD x10 2
 let x12:= !x11
 let x13:=x9.2
 let x14:=x13.1
 let x15:=ZfD x14 3
 let x16:= !x15
 let p1:=x16::x12::x8::x4::[]
 let x17:=x13.2
 let x18:=x17.1
 let x19:=ZfD x18 4
 let x20:= !x19
 let p3:=x20::p1
 let x21:=x17.2
 let x22:=x21.1
 let x23:=ZfD x22 5
 let x24:= !x23
 let p6:=x24::p3
 let x25:=x21.2
 let x26:=x25.1
 let x27:=ZfD x26 6
 let p7:=(!x27)::p6
 let x28:=x25.2
 let x29:=x28.1
 let x30:=orR p7 (ZfD x29 7)
 let x31:= !x30
 let x32:=orR p6 x27
 let x33:= !x32
 let p2:=x33::x31::(decide (a.2.2.1>=65536))::(!Zf a.2.2.1 (Le a.1))::[]
 let x34:=orR p3 x23
 let x35:= !x34
 let p4:=x35::p2
 let x36:=orR p1 x19
 let x37:= !x36
 let p5:=x37::p4
 let x38:=x4||(x8||(x12||x15))
 let x39:= !x38
 let p8:=x39::p5
 let x40:=x4||(x8||x11)
 let x41:= !x40
 let p9:=x41::p8
 let x42:=x4||x7
 let x43:= !x42
 let p10:=x43::p9
 let p11:=x4::p10
 let x44:=orI u8 (orI u8 (orI u8 (orI u8 (orI u8 (orI u8 (orI u8 (wBit x2 0) (wBit x6 1)) (wBit x10 2)) (wBit x14 3)) (wBit x18 4)) (wBit x22 5)) (wBit x26 6)) (wBit x29 7)
 let x45:=x28.2
 let x46:=x45.1
 let x47:=x45.2
 let x48:List Int:=a.2.2.2.1++[x44,x46,x47,ZhT x44 x46 x47]
 .br (decide (a.2.2.1<a.2.1)) (.br (orR p11 (Nat.ble (Le x48) most)) (.br (orR p10 x3) (.br (orR p9 x42) (.br (orR p8 x40) (.br (orR p5 x38) (.br (orR p4 x36) (.br (orR p2 x34) (.br (!Zf a.2.2.1 (Le a.1)||(decide (a.2.2.1>=65536)||(x31||x32))) (.br (!Zf a.2.2.1 (Le a.1)||(decide (a.2.2.1>=65536)||x30)) (.br (Zf a.2.2.1 (Le a.1)) (.br (decide (a.2.2.1>=65536)) (Ls (Go1.brk (a.1,a.2.1,a.2.2.1,a.2.2.2.1,PUnit.unit))) (Ls (Go1.cont (a.1,a.2.1,i64.wrap (a.2.2.1+1),x48,PUnit.unit)))) Ln) Ln) Ln) Ln) Ln) Ln) Ln) Ln) Ln) Ln) (Ls (Go1.brk (a.1,a.2.1,a.2.2.1,a.2.2.2.1,PUnit.unit)))
def ZmE:Ora:=ZaY false ZzE Zib (λa=>1000000000000)
theorem Zr2:ZaB (envX prog [(116,ZU1),(117,ZzF)] [] 127 8) (.block 0 (.loop (ZX Tryz.f56.body 0))) ZmE:=
 loopP ⟨ZJw,ZvP,Tv⟩
def Zgr (l:List INPT):RT (Option (List Int)):=
 let x1:=runF false Zib (λa=>1000000000000) (l,iN (Le l),0,[],())
 .br (okB x1) (Ls (getO (false,l,iN (Le l),0,[],()) x1).2.2.2.2.1) Ln
def Zbz (l:List INPT):List Int:=getO [] (Zgr l).val
def Zgs (l:List INPT):Bool:=okB (Zgr l).val
def ZvN:En:=frzE (newE ZaT ZaU Zj9 (λa=>some (Zgs a)) (λa=>Zbz a))
theorem ZvO:Zb prog 56 (newE ZaT ZaU Zj9 (λa=>some (Zgs a)) (λa=>Zbz a)):=
 Zml (P:=prog) (n:=127) (k:=8) (l:=[(116,ZU1),(117,ZzF)]) (ol:=[(0,ZmE)]) ⟨ZJw,ZvP,Tv⟩ Tryz.func56 rfl (by kernel_rfl) Tryz.call56 ⟨Zr2,Tv⟩ (r:=ZaT) (T:=ZaU) (ts:=Zj9) (t:=λa=>Zgr a) (λa=>by kernel_rfl)
theorem ZzD:Zb prog 56 ZvN:=Zy4 ZvO
def ZhA (s:List Int×Int) (n:Int):RT (Option (List Int×List Int×Int)):=
 let x1:=decide (iN (Le (Stg.l (newG ZaT ZaU (Zbz (Zai s n).1))))>0)
 let x2:=x1&&(Za (Zai s n).2 4).1==0
 let x3:= !x2
 let x4:List Int:=bif x1 then (Za (Zai s n).2 4).2.1 else (Zai s n).2.1
 let x5:Int:=bif x1 then (Za (Zai s n).2 4).2.2 else (Zai s n).2.2
 let x6:List Int×Int:=(x4,x5)
 let x7:=Zl x6 (iN (Le (Stg.l (newG ZaT ZaU (Zbz (Zai s n).1)))))
 let x8:= !x7
 let x9:=Za x6 (iN (Le (Stg.l (newG ZaT ZaU (Zbz (Zai s n).1)))))
 let x10:=x9.1
 let x11:=Zf x10 (Le (Stg.l (newG ZaT ZaU (Zbz (Zai s n).1))))
 let x12:= !x11
 let x13:=x9.2
 let x14:=Zl x13 8
 let x15:= !x14
 let p1:=x15::x12::x8::x3::[]
 let x16:=Za x13 8
 let x17:=x16.1
 let x18:=decide (0<=x17)
 let p2:=(!x18)::p1
 let x19:=x16.2
 .br (!Zjw s n||Zgs (Zai s n).1) (.br (Zjw s n) (.br (!x1||Zl (Zai s n).2 4) (.br (orR p2 x11) (.br (orR p1 x18) (.br (x3||(x8||(x12||x14))) (.br (x3||(x8||x11)) (.br (x3||x7) (Ls ((bif x2 then setI (Stg.l (newG ZaT ZaU (Zbz (Zai s n).1))) x10 (xorI u8 (R.get (Stg.r (newG ZaT ZaU (Zbz (Zai s n).1))) (Stg.l (newG ZaT ZaU (Zbz (Zai s n).1))) x10) (shlI u8 1 x17)) else Stg.l (newG ZaT ZaU (Zbz (Zai s n).1)),bif x2 then x19.1 else x4,bif x2 then x19.2 else x5))) Ln) Ln) Ln) Ln) Ln) Ln) Ln) Ln
def ZgU (s:List Int×Int) (n:Int):List Int×List Int×Int:=getO (ZJu.Df,ZCB.Df) (ZhA s n).val
def Zmm (s:List Int×Int) (n:Int):Bool:=okB (ZhA s n).val
def ZFR:En:=boxE ZCB ZxT ZJu (λa=>some (Zmm a.1 a.2)) (λa=>ZgU a.1 a.2)
theorem ZIy:Zb prog 67 ZFR:=
 Zcm (P:=prog) (n:=63) (k:=8) (l:=[(56,ZvN),(68,Zcy),(125,ZFS)]) (ol:=[]) ⟨ZzD,ZaM,ZIB,Tv⟩ Tryz.func67 rfl (by kernel_rfl) Tryz.call67 trivial (rb:=ZCB) (ts:=ZxT) (rs:=ZJu) (t:=λa=>ZhA a.1 a.2) (λa=>by kernel_rfl)
theorem ZPz:Zib=Zd6:=by funext a;rfl
theorem ZQw (l:List INPT) (hl:l.length<=1000):Zgs l=true/\Zbz l=ZmF l/\(Zbz l).length=4*l.length:=by
 have h:=ZGO l hl;have e:Zgr l=Zhf l:=by unfold Zgr Zhf;rw[ZPz]
 have e2:Zbz l=ZmF l:=by unfold Zbz ZmF;rw[e];rfl
 refine⟨by unfold Zgs;rw[e];exact h.1,e2,by rw[e2];exact h.2⟩
theorem ZIz {s:List Int×Int} {k:Int} (h:NB s k) (hk:k<=50000) (n:Nat) (hn:n<=250):
  Zmm s (n:Int)=true/\NB (ZgU s (n:Int)).2 (k+10+30*n)/\(ZgU s (n:Int)).1.length<=4*n/\∃m:Nat,(ZgU s (n:Int)).1.length=4*m:=by
 have hms:=mst;obtain⟨c1,b1,l1⟩:=ZIC h (by omega) n hn;obtain⟨c2,e2,l2⟩:=ZQw (Zai s (n:Int)).1 (by omega);have hg:∀l:List Int,Stg.l (newG ZaT ZaU l)=l:=λ_=>rfl
 have hr:∀l:List Int,Stg.r (newG ZaT ZaU l)=R.int .u8:=λ_=>rfl
 obtain⟨L,hL⟩:∃L,L=Zbz (Zai s (n:Int)).1:=⟨_,rfl⟩;rw[<-hL] at l2;obtain⟨c3,b3,_⟩:=Zs b1 (by omega) 4 (by decide) (by decide);have b4:NB (bif decide (iN L.length>0) then (Za (Zai s (n:Int)).2 4).2.1 else (Zai s (n:Int)).2.1,bif decide (iN L.length>0) then (Za (Zai s (n:Int)).2 4).2.2 else (Zai s (n:Int)).2.2) (k+3+30*n):=by
  cases decide (iN L.length>0)
  ·exact b1.up (by omega)
  ·exact b3.up (by omega)
 obtain⟨s4,hs4⟩:∃s4:List Int×Int,s4=(bif decide (iN L.length>0) then (Za (Zai s (n:Int)).2 4).2.1 else (Zai s (n:Int)).2.1,bif decide (iN L.length>0) then (Za (Zai s (n:Int)).2 4).2.2 else (Zai s (n:Int)).2.2):=⟨_,rfl⟩;rw[<-hs4] at b4;have hv:∃l s',(ZhA s (n:Int)).val=some (l,s')/\NB s' (k+10+30*n)/\l.length=L.length:=by
  by_cases hz:0<L.length
  ·have d:decide (iN L.length>0)=true:=Yq (by simp only[iN,Le];omega);obtain⟨c5,b5,d0,d1⟩:=Zs b4 (by omega) (iN L.length) (by simp only[iN,Le];omega) (by simp only[iN,Le];omega);obtain⟨c6,b6,f0,f1⟩:=Zs b5 (by omega) 8 (by decide) (by decide);have r5:Zf (Za s4 (iN L.length)).1 L.length=true:=ZT.2 ⟨d0,by simpa [iN,Le] using d1⟩;have e6:decide (0<=(Za (Za s4 (iN L.length)).2 8).1)=true:=Yq f0;rw[d] at hs4;simp only[Ya] at hs4;unfold ZhA;simp only[RT.val,hg,hr,<-hL,c1,c2,d,c3,<-hs4,c5,r5,c6,e6,ZbP,Za3,YT,Yf,Yi,Yj,Ya];cases (Za (Zai s (n:Int)).2 4).1==0
   ·exact⟨_,_,rfl,b3.up (by omega),rfl⟩
   ·exact⟨_,_,rfl,b6.up (by omega),by simp only[Ya,setI,YaI]⟩
  ·have d:decide (iN L.length>0)=false:=Yx (by simp only[iN,Le];omega);rw[d] at hs4;simp only[Yb] at hs4;unfold ZhA;simp only[RT.val,hg,hr,<-hL,c1,c2,d,ZbP,Za3,YW,Yf,Yl,Yv,Yi,Yj,Ya,Yb];exact⟨_,_,rfl,b1.up (by omega),rfl⟩
 obtain⟨l,s',hv,h1,h2⟩:=hv;simp only[Zmm,ZgU,hv,okB,getO];exact⟨trivial,h1,by omega,(Zai s (n:Int)).1.length,by omega⟩
abbrev ZvI:List Sh:=[Sh.agg Z8,Sh.agg ZaA]
def ZDm (c:TC) (e:EVTT):RT TC:=
 .br (bif e.1==1 then e.1==1 else bif e.1==2 then e.1==2 else e.1==3) (.Lf (finX ((Zj c e.2.1).1,(Zj c e.2.1).2.1,(Zj c e.2.1).2.2.1,(Zj c e.2.1).2.2.2.1,(Zj c e.2.1).2.2.2.2.1,(Zj c e.2.1).2.2.2.2.2.1,e.2.2.2.2.2.1,e.2.2.2.2.1,e.2.2.2.2.2.2.2.1,e.2.2.2.2.2.2.1,(Zj c e.2.1).2.2.2.2.2.2.2.2.2.2) e.2.1 e.2.2.1 e.2.2.2.1)) (.br (e.1==4) (.Lf (((ZC c).1,((ZC c).2.1.1,(ZC c).2.1.2.1,(ZC c).2.1.2.2.1,(ZC c).2.1.2.2.2.1,(ZC c).2.1.2.2.2.2.1,(ZC c).2.1.2.2.2.2.2.1,(ZC c).2.1.2.2.2.2.2.2.1,(ZC c).2.1.2.2.2.2.2.2.2.1,(ZC c).2.1.2.2.2.2.2.2.2.2.1,0),false,false,false,(ZC c).2.2.2.2.2.1,false,false,false,false,false,false,false))) (.Lf (c)))
def ZQf (c:TC) (e:EVTT):TC:=(ZDm c e).val
def ZX1:En:=Zi ZvI ZMx (λ_=>none) (λa=>ZQf a.1 a.2)
theorem ZQe:Zb Tryz.prog 28 ZX1:=
 pureQ 34359738527 [(80,Zjo),(81,ZdA),(85,ZCf)] [] _ _ ⟨Zhw,Zdi,Zt6,Tv⟩ Tryz.func28 Tryz.call28 trivial
abbrev Zj6:Rs:=Rs.one (So (R.sl (RY)))
def ZJd:LS:={n:=67,Sl:=[(2,.fix (A.loc 0 0)),(3,.fix (A.loc 1 0)),(5,.tip 0),(23,.code (So (R.sl Ka))),(24,.code (So Kc)),(25,.code (So Kc))],Bx:=[[.many Z8],[.many ZaA]],Sg:=[⟨(RY),41,true⟩]}
def Zed (a:List Int×Int×Int×TC×EVTT×List TY×PUnit):RT (Option (Go1 (List Int×Int×Int×TC×EVTT×List TY×PUnit))):=
 let x1:=decide (0<=0)&&decide (0<=a.2.2.1)&&(decide (a.2.2.1=0)||decide (a.2.2.1<=iN (Le a.2.2.2.2.1.2.2.1)))
 let x2:=Zh a.2.2.2.1 a.2.2.2.2.1.2.1 (subL a.2.2.2.2.1.2.2.1 0 a.2.2.1)
 let x3:= !x2.2
 let x4:=x2.1
 let x5:=x4.1
 let x6:=x4.2
 let x7:=x6.2
 let x8:List TY:=a.2.2.2.2.2.1++[(x5,x6.1,bif ZaS x5 then R.get Ka a.1 a.2.2.1 else x7.1,bif x5==1||x5==8 then ZgK a.2.2.2.1.1 (R.get Ka a.1 a.2.2.1) else x7.2)]
 .br (decide (a.2.2.1<a.2.1)) (.br (!Zf a.2.2.1 (Le a.1)||(!x1||(x3||Nat.ble (Le x8) most))) (.br (!Zf a.2.2.1 (Le a.1)||x1) (.br (Zf a.2.2.1 (Le a.1)) (.br (x3) (Ls (Go1.brk (a.1,a.2.1,a.2.2.1,a.2.2.2.1,a.2.2.2.2.1,a.2.2.2.2.2.1,PUnit.unit))) (Ls (Go1.cont (a.1,a.2.1,i64.wrap (a.2.2.1+1),a.2.2.2.1,a.2.2.2.2.1,x8,PUnit.unit)))) Ln) Ln) Ln) (Ls (Go1.brk (a.1,a.2.1,a.2.2.1,a.2.2.2.1,a.2.2.2.2.1,a.2.2.2.2.2.1,PUnit.unit)))
def ZrV:Ora:=ZaY true ZJd Zed (λa=>1000000000000)
theorem Zzs:ZaB (envX Tryz.prog [(81,ZdA),(82,Zh3),(83,ZcV),(84,Zmf)] [] 5119 8) (.block 1 (.loop (ZX Tryz.f27.body 1))) ZrV:=
 loopP ⟨Zdi,ZfR,Zdh,ZkC,Tv⟩
def Zj5 (c:TC) (e:EVTT):RT (Option (List TY)):=
 let x1:List Int×Int×Int×TC×EVTT×List TY×PUnit:=(e.2.2.1,iN (Le e.2.2.1),0,Zj c e.2.1,e,[],())
 let x2:=runF true Zed (λa=>1000000000000) x1
 let x3:=getO (false,x1) x2
 .br (bif e.1==1 then e.1==1 else bif e.1==2 then e.1==2 else bif e.1==3 then e.1==3 else bif e.1==6 then e.1==6 else e.1==7) (.br (okB x2) (.br x3.1 Ln (Ls x3.2.2.2.2.2.2.1)) Ln) (Ls ([]))
def ZDl (c:TC) (e:EVTT):List TY:=getO Zj6.Df (Zj5 c e).val
def ZvH (c:TC) (e:EVTT):Bool:=okB (Zj5 c e).val
def ZTx:En:=Zi ZvI Zj6 (λa=>some (ZvH a.1 a.2)) (λa=>ZDl a.1 a.2)
theorem ZJc:Zb Tryz.prog 27 ZTx:=
 pureP 5119 [(81,ZdA),(82,Zh3),(83,ZcV),(84,Zmf)] [(1,ZrV)] _ _ ⟨Zdi,ZfR,Zdh,ZkC,Tv⟩ Tryz.func27 Tryz.call27 ⟨Zzs,Tv⟩
def ZjQ (k:Int):Bool:=k==1||(k==2||k==3)
def ZxK (c:TC) (e:EVTT):TC:=(c.1,c.2.1,c.2.2.1,c.2.2.2.1,c.2.2.2.2.1,c.2.2.2.2.2.1,e.2.2.2.2.2.1,e.2.2.2.2.1,e.2.2.2.2.2.2.2.1,e.2.2.2.2.2.2.1,c.2.2.2.2.2.2.2.2.2.2)
def Z7 (c:TC) (e:EVTT):TC:=bif ZjQ e.1 then finX (ZxK (Zj c e.2.1) e) e.2.1 e.2.2.1 e.2.2.2.1 else bif e.1==4 then ZC c else c
theorem ZX2 (c:TC) (e:EVTT):ZQf c e=Z7 c e:=by unfold ZQf ZDm Z7 ZjQ;simp only[RT.val];cases e.1==1<;>cases e.1==2<;>cases e.1==3<;>cases e.1==4<;>rfl
def Zfk (c:TC) (x:TY) (b:Int):TY:=(x.1,x.2.1,bif ZaS x.1 then b else x.2.2.1,bif x.1==1||x.1==8 then ZgK c.1 b else x.2.2.2)
def cyX (c:TC) (s:Int) (g:List Int):List Int->List TY
 |[]=>[]
 |b::r=>bif (Zh c s g).2 then Zfk c (Zh c s g).1 b::cyX c s (g++[b]) r else []
def cycE (k:Int):Bool:=ZjQ k||(k==6||k==7)
def ZR (c:TC) (e:EVTT):List TY:=bif cycE e.1 then cyX (Zj c e.2.1) e.2.1 [] e.2.2.1 else []
theorem ZjT (c:TC) (s:Int) (g:List Int) (b:Int) (r:List Int):cyX c s g (b::r)=bif (Zh c s g).2 then Zfk c (Zh c s g).1 b::cyX c s (g++[b]) r else []:=rfl
theorem ZXU (c:TC) (s:Int) (g:List Int):cyX c s g []=[]:=rfl
variable {α:Type}
theorem ZUK {b:Bool} {x y z:α} (h:b=true) (e:x=z:=by rfl):(bif b then x else y)=z:=by rw[h];exact e
theorem ZPX (c:TC) (s:Int):∀(r g:List Int),(cyX c s g r).length<=r.length
 |[],g=>Ye _
 |b::r,g=>by
  have:=ZPX c s r (g++[b]);unfold cyX;cases (Zh c s g).2
  ·exact Yr _
  ·simp only[Ya,List.length_cons];omega
theorem ZKr (g:List Int) (i:Nat):subL g 0 (i:Int)=g.take i:=by simp[subL]
theorem ZS8 (g:List Int) (i:Nat) (h:i<g.length):g.drop i=R.get (R.int .u8) g (i:Int)::g.drop (i+1):=by rw[Y6 h];simp[R.get,Yh h]
theorem ZQR (g:List Int) (i:Nat) (h:i<g.length):g.take (i+1)=g.take i++[R.get (R.int .u8) g (i:Int)]:=by rw[Yay,Yh h];simp[R.get,Yh h]
theorem cyc_b (c:TC) (e:EVTT) (h:e.2.2.1.length<=1000000):ZvH c e=true/\ZDl c e=ZR c e:=by
 have hms:=mst;obtain⟨r,hr,h0,h1⟩:=ZA (fl:=true) (t:=Zed) (fuel:=λ_=>1000000000000)
  (λa=>∃(i:Nat) (o:List TY),i<=e.2.2.1.length/\o.length<=i/\o++cyX (Zj c e.2.1) e.2.1 (e.2.2.1.take i) (e.2.2.1.drop i)=cyX (Zj c e.2.1) e.2.1 [] e.2.2.1/\a=(e.2.2.1,(e.2.2.1.length:Int),(i:Int),Zj c e.2.1,e,o,()))
  (λa=>Int.toNat (a.2.1-a.2.2.1)) (λr=>r.1=false/\r.2.2.2.2.2.2.1=cyX (Zj c e.2.1) e.2.1 [] e.2.2.1)
  (by
   rintro a ⟨i,o,hi,ho,hc,rfl⟩;by_cases hlt:i<e.2.2.1.length
   ·have d:decide ((i:Int)<(e.2.2.1.length:Int))=true:=Yq (by omega);have hin:Zf (i:Int) e.2.2.1.length=true:=ZT.2 ⟨by omega,by omega⟩;have w:IntKind.wrap .i64 ((i:Int)+1)=((i+1:Nat):Int):=by rw[wrap_i64 _ (by omega) (by omega)];omega
    have h0:(decide ((0:Int)<=0)&&decide ((0:Int)<=(i:Int))&&(decide ((i:Int)=0)||decide ((i:Int)<=iN e.2.2.1.length)))=true:=by
     have:(i:Int)<=iN e.2.2.1.length:=by simp only[iN,Le];omega
     simp[this]
    have hb:∀x:TY,Nat.ble (o++[x]).length most=true:=λx=>ZaE (by simp;omega)
    rw[ZS8 _ i hlt,ZjT] at hc;cases hn:(Zh (Zj c e.2.1) e.2.1 (e.2.2.1.take i)).2
    ·right;left;rw[hn] at hc;simp only[Yb,Yt] at hc;refine⟨(e.2.2.1,(e.2.2.1.length:Int),(i:Int),Zj c e.2.1,e,o,()),?_,rfl,hc⟩;simp only[Zed,RT.val,d,hin,ZKr,hn,hb,Yl,Yf,Yi,Yv,Yj,Ya];exact ZUK h0
    ·left;rw[hn] at hc;simp only[Ya] at hc;refine⟨(e.2.2.1,(e.2.2.1.length:Int),((i+1:Nat):Int),Zj c e.2.1,e,o++[Zfk (Zj c e.2.1) (Zh (Zj c e.2.1) e.2.1 (e.2.2.1.take i)).1 (R.get (R.int .u8) e.2.2.1 (i:Int))],()),?_,⟨i+1,_,by omega,by simp;omega,?_,rfl⟩,by simp only;omega⟩
     ·simp only[Zed,RT.val,d,hin,w,ZKr,hn,hb,Yl,Yf,Yi,Yv,Yj,Ya,Yb];exact ZUK h0
     ·rw[ZQR _ i hlt,Yn];exact hc
   ·right;left;have e1:i=e.2.2.1.length:=by omega
    subst e1;have d:decide ((e.2.2.1.length:Int)<(e.2.2.1.length:Int))=false:=Yx (by omega);rw[YaC,List.drop_length,ZXU,Yt] at hc
    exact⟨(e.2.2.1,(e.2.2.1.length:Int),(e.2.2.1.length:Int),Zj c e.2.1,e,o,()),by simp only[Zed,RT.val,d,Yb],rfl,hc⟩)
  (e.2.2.1,(e.2.2.1.length:Int),0,Zj c e.2.1,e,[],()) ⟨0,[],Yr _,Ye _,rfl,rfl⟩ (by simp only;omega)
 obtain⟨r1,r2⟩:=r;simp only at h0 h1;subst h0;have hv:(Zj5 c e).val=some (ZR c e):=by unfold Zj5 ZR cycE ZjQ;simp only[RT.val,iN,Le,hr,okB,getO,Ya,Yb,h1];cases e.1==1<;>cases e.1==2<;>cases e.1==3<;>cases e.1==6<;>cases e.1==7<;>rfl
 exact⟨by simp only[ZvH,hv];rfl,by simp only[ZDl,hv,getO]⟩
def ZgF (c:TC):List EVTT->List TC
 |[]=>[]
 |e::l=>Z7 c e::ZgF (Z7 c e) l
def ZH (c:TC) (l:List EVTT):TC:=l.foldl Z7 c
theorem ZK1 (c:TC):∀l:List EVTT,(ZgF c l).length=l.length:=by
 intro l
 induction l generalizing c with
 |nil=>rfl
 |cons e l ih=>simp only[ZgF,List.length_cons,ih]
variable {r:R}
theorem Zkj (g:List r.den) (i:Nat) (h:i<g.length):g.take (i+1)=g.take i++[R.get r g (i:Int)]:=by rw[Yay,Yh h];simp[R.get,Yh h]
theorem ZPG (g:List r.den) (i:Nat) (h:i<g.length):g.drop i=R.get r g (i:Int)::g.drop (i+1):=by rw[Y6 h];simp[R.get,Yh h]
def Zz6 (e:EVTT):Bool:=Nat.ble e.2.2.1.length 1000000
theorem ZQ9 {e:EVTT} (h:Zz6 e=true):e.2.2.1.length<=1000000:=by simpa [Zz6] using h
def Zgb:En:=Zi ZvI ZMx (λ_=>none) (λa=>Z7 a.1 a.2)
theorem ZfB:Zb Tryz.prog 28 Zgb:=ZQe.tot (λa h=>by simp) (λa h=>ZX2 a.1 a.2)
def ZeN:En:=Zi ZvI Zj6 (λa=>some (Zz6 a.2)) (λa=>ZR a.1 a.2)
theorem ZeM:Zb Tryz.prog 27 ZeN:=ZlG ZJc λa h=>cyc_b a.1 a.2 (ZQ9 h)
def ZAA (l:Int) (k:Int):RT (Int):=
 .Lf (andI i64 (i64.wrap (i64.wrap (andI i64 l 7-andI i64 k 7)+7)) 7)
def ZxA (l:Int) (k:Int):Int:=(ZAA l k).val
def ZLW:En:=Zi ZJ6 ZUd (λ_=>none) (λa=>ZxA a.1 a.2)
theorem ZLV:Zb prog 381 ZLW:=
 pureQ 31 [] [] _ _ trivial Tryz.func381 Tryz.call381 trivial
abbrev ZER:List Sh:=[So Ka,So Kc]
def ZLZ:LS:={n:=22,Sl:=[(0,.code (So Ka)),(1,.code (So Kc)),(4,.code (So Kc)),(5,.code (So Kc))],Bx:=[],Sg:=[]}
def Zdy (a:QT27):RT (Option (Go1 (QT27))):=
 let x1:=andI i64 (i64.wrap (andI i64 a.2.1 7+a.2.2.2.1)) 7
 .br (decide (a.2.2.2.1<=8)) (.br (decide (0<=x1)) (.br (andI u8 (shrI u8 a.1 x1) 1==1) (Ls (Go1.ret (a.1,a.2.1,x1,a.2.2.2.1,PUnit.unit))) (Ls (Go1.cont (a.1,a.2.1,a.2.2.1,i64.wrap (a.2.2.2.1+1),PUnit.unit)))) Ln) (Ls (Go1.brk (a.1,a.2.1,a.2.2.1,a.2.2.2.1,PUnit.unit)))
def ZxC:Ora:=ZaY true ZLZ Zdy (λa=>9)
theorem ZAB:ZaB (envX prog [] [] 127 8) (.block 0 (.loop (ZX Tryz.f346.body 0))) ZxC:=
 loopP trivial
def Zio (s:Int) (k:Int):RT (Option (Int)):=
 let x1:=runF true Zdy (λa=>9) (s,k,0,1,())
 let x2:=getO (false,s,k,0,1,()) x1
 .br (okB x1) (.br x2.1 (Ls x2.2.2.2.1) (Ls (-1))) Ln
def Zjf (s:Int) (k:Int):Int:=getO ZUd.Df (Zio s k).val
def Zip (s:Int) (k:Int):Bool:=okB (Zio s k).val
def ZAC:En:=Zi ZER ZUd (λa=>some (Zip a.1 a.2)) (λa=>Zjf a.1 a.2)
theorem ZxB:Zb prog 346 ZAC:=
 pureP 127 [] [(0,ZxC)] _ _ trivial Tryz.func346 Tryz.call346 ⟨ZAB,Tv⟩
abbrev ZEP:List Sh:=[So Ka,So Ka,So Ka,So Kc,So R.bool]
def ZnA (r:Int) (m:Int) (s:Int) (k:Int) (p:Bool):RT (Option (Int)):=
 .br (!Zip (ZY u8 r m) k||Zip (bif p then ZY u8 s m else s) k) (.br (Zip (ZY u8 r m) k) (.br (decide (Zjf (ZY u8 r m) k<0)||decide (Zjf (bif p then ZY u8 s m else s) k>=0)&&decide (ZxA (Zjf (ZY u8 r m) k) k>=ZxA (Zjf (bif p then ZY u8 s m else s) k) k)) (Ls (-1)) (Ls (Zjf (ZY u8 r m) k))) Ln) Ln
def ZEQ (r:Int) (m:Int) (s:Int) (k:Int) (p:Bool):Int:=getO ZUd.Df (ZnA r m s k p).val
def Ztc (r:Int) (m:Int) (s:Int) (k:Int) (p:Bool):Bool:=okB (ZnA r m s k p).val
def ZLY:En:=Zi ZEP ZUd (λa=>some (Ztc a.1 a.2.1 a.2.2.1 a.2.2.2.1 a.2.2.2.2)) (λa=>ZEQ a.1 a.2.1 a.2.2.1 a.2.2.2.1 a.2.2.2.2)
theorem ZLX:Zb prog 344 ZLY:=
 pureP 8191 [(346,ZAC),(381,ZLW)] [] _ _ ⟨ZxB,ZLV,Tv⟩ Tryz.func344 Tryz.call344 trivial
def ZT1:RT PICT:=
 .Lf ((0,false,false,false,false,0,0,false,false,false,false,false,0,0,0,0,7,0,0,false))
def ZV6:PICT:=(ZT1).val
def ZEX:En:=Zi Zxw ZU8 (λ_=>none) (λa=>ZV6)
theorem ZEW:Zb prog 99 ZEX:=
 pureQ 1 [] [] _ _ trivial Tryz.func99 Tryz.call99 trivial
abbrev ZL2:List Sh:=[Sh.agg Zcp]
def ZL3 (p:PICT):RT (Int):=
 .br p.2.1 (.Lf p.2.2.2.2.2.2.2.2.2.2.2.2.1) (.Lf p.2.2.2.2.2.2.2.2.2.2.2.2.2.1)
def ZHh (p:PICT):Int:=(ZL3 p).val
def ZL5:En:=Zi ZL2 ZN3 (λ_=>none) (λa=>ZHh a)
theorem ZEU:Zb prog 273 ZL5:=
 pureQ 7 [] [] _ _ trivial Tryz.func273 Tryz.call273 trivial
def ZnI (p:PICT):RT (Option (Int)):=
 let x1:=p.2.2.2.2.2.2.2.2.2.2.2.2.2.2
 let x2:=x1.2
 let x3:=x2.1
 let x4:=x1.1
 let x5:=x2.2.1
 .br (Ztc (ZHh p) x3 x4 x5 p.2.2.2.2.2.2.2.2.2.1) (Ls (ZEQ (ZHh p) x3 x4 x5 p.2.2.2.2.2.2.2.2.2.1)) Ln
def Za7 (p:PICT):Int:=getO ZUd.Df (ZnI p).val
def Zky (p:PICT):Bool:=okB (ZnI p).val
def Ztm:En:=Zi ZL2 ZUd (λa=>some (Zky a)) (λa=>Za7 a)
theorem ZnH:Zb prog 268 Ztm:=
 pureP 7 [(273,ZL5),(344,ZLY)] [] _ _ ⟨ZEU,ZLX,Tv⟩ Tryz.func268 Tryz.call268 trivial
def ZxF (p:PICT):RT (Option (Bool)):=
 .br (Zky p) (Ls (decide (Za7 p>=0))) Ln
def ZV7 (p:PICT):Bool:=getO Zn6.Df (ZxF p).val
def ZMa (p:PICT):Bool:=okB (ZxF p).val
def ZYR:En:=Zi ZL2 Zn6 (λa=>some (ZMa a)) (λa=>ZV7 a)
theorem ZRE:Zb prog 199 ZYR:=
 pureP 7 [(268,Ztm)] [] _ _ ⟨ZnH,Tv⟩ Tryz.func199 Tryz.call199 trivial
abbrev ZnE:List Sh:=[Sh.agg Zcp,So Ka]
def Ztk (p:PICT) (l:Int):RT PICT:=
 let x1:=p.2.2.2.2.2.2.2.2.2.2.2.2.2
 .Lf ((p.1,p.2.1,p.2.2.1,p.2.2.2.1,p.2.2.2.2.1,p.2.2.2.2.2.1,p.2.2.2.2.2.2.1,p.2.2.2.2.2.2.2.1,p.2.2.2.2.2.2.2.2.1,p.2.2.2.2.2.2.2.2.2.1,p.2.2.2.2.2.2.2.2.2.2.1,p.2.2.2.2.2.2.2.2.2.2.2.1,l,andI u8 (orI u8 x1.1 (ZY u8 l p.2.2.2.2.2.2.2.2.2.2.2.2.1)) l,x1.2))
def ZAI (p:PICT) (l:Int):PICT:=(Ztk p l).val
def ZRD:En:=Zi ZnE ZU8 (λ_=>none) (λa=>ZAI a.1 a.2)
theorem ZHj:Zb prog 198 ZRD:=
 pureQ 31 [] [] _ _ trivial Tryz.func198 Tryz.call198 trivial
abbrev ZET:List Sh:=[Sh.agg Zcp,So Kc]
def Ztg (p:PICT) (x:Int):RT (Option PICT):=
 let x1:=p.2.2.2.2.2.2.2.2.2.2.2.2.2
 let x2:=x1.2
 .br (decide (0<=x)) (.br (decide (0<=x)) (Ls ((p.1,p.2.1,p.2.2.1,p.2.2.2.1,p.2.2.2.2.1,p.2.2.2.2.2.1,p.2.2.2.2.2.2.1,p.2.2.2.2.2.2.2.1,p.2.2.2.2.2.2.2.2.1,p.2.2.2.2.2.2.2.2.2.1,p.2.2.2.2.2.2.2.2.2.2.1,p.2.2.2.2.2.2.2.2.2.2.2.1,p.2.2.2.2.2.2.2.2.2.2.2.2.1,ZY u8 x1.1 (shlI u8 1 x),orI u8 x2.1 (shlI u8 1 x),x2.2))) Ln) Ln
def Zrf (p:PICT) (x:Int):PICT:=getO ZU8.Df (Ztg p x).val
def Zkx (p:PICT) (x:Int):Bool:=okB (Ztg p x).val
def ZAF:En:=Zi ZET ZU8 (λa=>some (Zkx a.1 a.2)) (λa=>Zrf a.1 a.2)
theorem ZxE:Zb prog 271 ZAF:=
 pureP 31 [] [] _ _ trivial Tryz.func271 Tryz.call271 trivial
def ZEZ (p:PICT) (x:Int):RT (Option PICT):=
 let x1:=p.2.2.2.2.2.2.2.2.2.2.2.2.2
 let x2:=x1.2
 let x3:=x2.2
 let x4:=x3.2
 .br (decide (0<=x)) (Ls ((p.1,p.2.1,p.2.2.1,p.2.2.2.1,p.2.2.2.2.1,p.2.2.2.2.2.1,p.2.2.2.2.2.2.1,p.2.2.2.2.2.2.2.1,p.2.2.2.2.2.2.2.2.1,p.2.2.2.2.2.2.2.2.2.1,p.2.2.2.2.2.2.2.2.2.2.1,p.2.2.2.2.2.2.2.2.2.2.2.1,p.2.2.2.2.2.2.2.2.2.2.2.2.1,x1.1,ZY u8 x2.1 (shlI u8 1 x),x3.1,bif p.2.2.2.2.2.2.2.2.1 then x else x4.1,x4.2))) Ln
def ZHk (p:PICT) (x:Int):PICT:=getO ZU8.Df (ZEZ p x).val
def Zrg (p:PICT) (x:Int):Bool:=okB (ZEZ p x).val
def ZMd:En:=Zi ZET ZU8 (λa=>some (Zrg a.1 a.2)) (λa=>ZHk a.1 a.2)
theorem ZEY:Zb prog 272 ZMd:=
 pureP 31 [] [] _ _ trivial Tryz.func272 Tryz.call272 trivial
def ZAL (p:PICT) (v:Int):RT PICT:=
 let x1:=p.2.2.2.2.2.2.2.2.2.2.2.2.2
 let x2:=x1.2
 let x3:=x2.2
 let x4:=x3.1
 .Lf ((bif p.1==2 then bif p.2.2.2.1 then bif p.2.2.2.2.1 then 4 else 0 else 3 else bif p.1==3 then bif p.2.2.2.2.1 then 4 else 0 else bif p.1==4 then 0 else p.1,p.2.1,p.2.2.1,p.2.2.2.1,p.2.2.2.2.1,p.2.2.2.2.2.1,bif p.1==2 then v else p.2.2.2.2.2.2.1,bif p.1==2 then p.2.2.2.2.2.2.2.1 else bif p.1==3 then p.2.2.2.2.2.2.2.1 else bif p.1==4 then andI u8 v 2 !=0 else p.2.2.2.2.2.2.2.1,p.2.2.2.2.2.2.2.2.1,p.2.2.2.2.2.2.2.2.2.1,p.2.2.2.2.2.2.2.2.2.2.1,p.2.2.2.2.2.2.2.2.2.2.2.1,p.2.2.2.2.2.2.2.2.2.2.2.2.1,x1.1,x2.1,bif p.1==2 then x4 else bif p.1==3 then x4 else bif p.1==4 then x4 else v,x3.2))
def ZE2 (p:PICT) (v:Int):PICT:=(ZAL p v).val
def ZMf:En:=Zi ZnE ZU8 (λ_=>none) (λa=>ZE2 a.1 a.2)
theorem ZMe:Zb prog 274 ZMf:=
 pureQ 35655743 [] [] _ _ trivial Tryz.func274 Tryz.call274 trivial
def ZxG (p:PICT) (v:Int):RT (Option PICT):=
 let x1:=p.2.2.2.2.2.2.2.2.2.2.2.2.2
 let x2:=x1.2
 let x3:=x2.1
 let x4:=x2.2
 let x5:=x4.1
 let x6:Int:=bif p.2.2.2.2.2.2.2.2.2.1 then ZY u8 x3 x5 else x3
 let x7:=x4.2
 let x8:=x7.1
 let x9:=bif shrI u8 v 5==1 then shrI u8 v 5==1 else shrI u8 v 5==5
 let x10:=Zjf x6 x8
 let x11:=decide (x10<0)
 let p1:=x11::(!x9)::(shrI u8 v 5==4)::(shrI u8 v 5==0)::[]
 let x12:= !shrI u8 v 5==3||decide (0<=i64.wrap (andI u8 v 7))
 let p2:=(!shrI u8 v 5==7)::(shrI u8 v 5==3)::(!x12)::x9::(shrI u8 v 5==4)::(shrI u8 v 5==0)::[]
 let x13:=ZY u8 x3 (shlI u8 1 (i64.wrap (andI u8 v 7)))
 .br (Zip x6 x8) (.br (orR p1 (decide (0<=x10))) (.br (orR p2 (decide (0<=i64.wrap (andI u8 v 7)))) (.br (shrI u8 v 5==0||(shrI u8 v 5==4||(x9||x12))) (Ls ((p.1,p.2.1,p.2.2.1,p.2.2.2.1,p.2.2.2.2.1,p.2.2.2.2.2.1,p.2.2.2.2.2.2.1,p.2.2.2.2.2.2.2.1,!shrI u8 v 5==0&&(shrI u8 v 5==4||p.2.2.2.2.2.2.2.2.1),p.2.2.2.2.2.2.2.2.2.1,p.2.2.2.2.2.2.2.2.2.2.1,p.2.2.2.2.2.2.2.2.2.2.2.1,p.2.2.2.2.2.2.2.2.2.2.2.2.1,x1.1,bif shrI u8 v 5==0 then x3 else bif shrI u8 v 5==4 then x3 else bif x9 then bif x11 then x3 else ZY u8 x3 (shlI u8 1 x10) else bif shrI u8 v 5==3 then x13 else bif shrI u8 v 5==7 then x13 else x3,x5,bif shrI u8 v 5==0 then x8 else bif shrI u8 v 5==4 then x8 else bif x9 then bif x11 then x8 else bif shrI u8 v 5==5 then x10 else x8 else bif shrI u8 v 5==3 then x8 else bif shrI u8 v 5==7 then i64.wrap (andI u8 v 7) else bif shrI u8 v 5==6 then i64.wrap (andI u8 v 7) else x8,x7.2))) Ln) Ln) Ln) Ln
def ZRG (p:PICT) (v:Int):PICT:=getO ZU8.Df (ZxG p v).val
def ZE3 (p:PICT) (v:Int):Bool:=okB (ZxG p v).val
def ZT2:En:=Zi ZnE ZU8 (λa=>some (ZE3 a.1 a.2)) (λa=>ZRG a.1 a.2)
theorem ZRF:Zb prog 275 ZT2:=
 pureP 36929657684375896319 [(346,ZAC)] [] _ _ ⟨ZxB,Tv⟩ Tryz.func275 Tryz.call275 trivial
abbrev ZnB:List Sh:=[Sh.agg Zcp,So R.bool,So Ka]
def Zjg (p:PICT) (h:Bool) (v:Int):RT (Option PICT):=
 .br (h||(andI u8 v 16 !=0||(!andI u8 v 8==0||ZE3 p v))) (.br (h) (Ls (ZE2 p v)) (.br (andI u8 v 16 !=0) (Ls ((2,andI u8 v 8 !=0,andI u8 v 4 !=0,andI u8 v 2 !=0,andI u8 v 1 !=0,andI u8 v 224,0,false,false,false,false,false,p.2.2.2.2.2.2.2.2.2.2.2.2.1,0,0,0,7,0,0,false))) (.br (andI u8 v 8==0) (Ls (ZRG p v)) (Ls ((p.1,p.2.1,p.2.2.1,p.2.2.2.1,p.2.2.2.2.1,p.2.2.2.2.2.1,p.2.2.2.2.2.2.1,p.2.2.2.2.2.2.2.1,p.2.2.2.2.2.2.2.2.1,bif andI u8 v 64 !=0 then andI u8 v 32 !=0 else p.2.2.2.2.2.2.2.2.2.1,bif andI u8 v 2 !=0 then andI u8 v 1 !=0 else p.2.2.2.2.2.2.2.2.2.2.1,andI u8 v 4 !=0||p.2.2.2.2.2.2.2.2.2.2.2.1,p.2.2.2.2.2.2.2.2.2.2.2.2)))))) Ln
def ZAE (p:PICT) (h:Bool) (v:Int):PICT:=getO ZU8.Df (Zjg p h v).val
def Ztf (p:PICT) (h:Bool) (v:Int):Bool:=okB (Zjg p h v).val
def ZRC:En:=Zi ZnB ZU8 (λa=>some (Ztf a.1 a.2.1 a.2.2)) (λa=>ZAE a.1 a.2.1 a.2.2)
theorem ZHg:Zb prog 207 ZRC:=
 pureP 4398046519807 [(99,ZEX),(274,ZMf),(275,ZT2)] [] _ _ ⟨ZEW,ZMe,ZRF,Tv⟩ Tryz.func207 Tryz.call207 trivial
abbrev Zti:List Sh:=[Sh.agg Zcp,So R.bool]
def ZnD (p:PICT) (h:Bool):RT (Option (PICT×Int)):=
 let x1:= !p.2.2.2.2.2.2.2.2.2.2.2.1
 let x2:PICT:=(p.1,p.2.1,p.2.2.1,p.2.2.2.1,p.2.2.2.2.1,p.2.2.2.2.2.1,p.2.2.2.2.2.2.1,p.2.2.2.2.2.2.2.1,p.2.2.2.2.2.2.2.2.1,p.2.2.2.2.2.2.2.2.2.1,p.2.2.2.2.2.2.2.2.2.2.1,false,p.2.2.2.2.2.2.2.2.2.2.2.2)
 let x3:=h||(x1||Zky x2)
 let x4:= !x3
 let x5:=Za7 x2
 let x6:=decide (x5<0)
 let p1:=x6::x1::h::x4::[]
 let x7:=Zkx x2 x5
 let x8:=Zrf x2 x5
 let x9:=x8.2
 let x10:=x9.2
 let x11:=x10.2
 let x12:=x11.2
 let x13:=x12.2
 let x14:=x13.2
 let x15:=x14.2
 let x16:=x15.1
 let p2:=(!x16)::(!x7)::p1
 let x17:=p.2.2.2.2.2.2.2.2.2.2.2.2.2.2
 let x18:=ZHk x8 x5
 .br (orR p2 (Zrg x8 x5)) (.br (orR p1 x7) (.br (x3) (.br (h) (Ls ((p,x17.2.1))) (.br p.2.2.2.2.2.2.2.2.2.2.2.1 (.br (x6) (Ls ((x2,0))) (Ls (((R.sel Zcp x16 x18 x8),u8.wrap (128+u8.wrap x5))))) (.br p.2.2.2.2.2.2.2.2.2.2.1 (Ls ((p,x17.1))) (Ls ((p,ZHh p)))))) Ln) Ln) Ln
def ZL7 (p:PICT) (h:Bool):PICT×Int:=getO ZU5.Df (ZnD p h).val
def ZAG (p:PICT) (h:Bool):Bool:=okB (ZnD p h).val
def ZV5:En:=Zi Zti ZU5 (λa=>some (ZAG a.1 a.2)) (λa=>ZL7 a.1 a.2)
theorem ZL6:Zb prog 205 ZV5:=
 pureP 8589938943 [(268,Ztm),(271,ZAF),(272,ZMd),(273,ZL5)] [] _ _ ⟨ZnH,ZxE,ZEY,ZEU,Tv⟩ Tryz.func205 Tryz.call205 trivial
def ZxH (p:PICT):RT (Option (PICT×Int)):=
 let x1:=p.2.2.2.2.2.2.2.2.2.2.2.2.2
 let x2:=x1.2
 let x3:=x2.2
 let x4:=x3.2
 let x5:=x4.2
 let x6:=x5.1
 let x7:=x6==0
 let x8:= !x7
 let x9:=x8||Zky p
 let x10:=p.2.2.2.2.2.2.2.2.2.2.2.2.1
 let x11:=x1.1
 let x12:=x2.1
 let x13:=x3.1
 let x14:=x4.1
 let x15:=x5.2
 let x16:=x15.1
 let x17:PICT:=(p.1,p.2.1,p.2.2.1,p.2.2.2.1,p.2.2.2.2.1,p.2.2.2.2.2.1,p.2.2.2.2.2.2.1,p.2.2.2.2.2.2.2.1,p.2.2.2.2.2.2.2.2.1,p.2.2.2.2.2.2.2.2.2.1,p.2.2.2.2.2.2.2.2.2.2.1,p.2.2.2.2.2.2.2.2.2.2.2.1,x10,x11,x12,x13,x14,x6,x16,decide (Za7 p<0))
 let x18:=Zrf x17 (Za7 p)
 let x19:=x18.2
 let x20:=x19.2
 let x21:=x20.2
 let x22:=x21.2
 let x23:=x22.2
 let x24:=x23.2
 let x25:=x24.2
 let x26:=x25.2
 let x27:=x26.2
 let x28:=x27.2
 let x29:=x28.2
 let x30:=x29.2
 let x31:=x30.2
 let x32:=x31.2
 let x33:=x32.2
 let x34:=x33.2
 let x35:PICT:=(p.1,p.2.1,p.2.2.1,p.2.2.2.1,p.2.2.2.2.1,p.2.2.2.2.2.1,p.2.2.2.2.2.2.1,p.2.2.2.2.2.2.2.1,p.2.2.2.2.2.2.2.2.1,p.2.2.2.2.2.2.2.2.2.1,p.2.2.2.2.2.2.2.2.2.2.1,p.2.2.2.2.2.2.2.2.2.2.2.1,x10,x11,x12,x13,x14,2,x15)
 let x36:=andI i64 x16 7
 let x37:=x15.2
 let x38:=p.2.2.2.2.2.2.2.1&& !x37
 let x39:PICT:=(p.1,p.2.1,p.2.2.1,p.2.2.2.1,p.2.2.2.2.1,p.2.2.2.2.2.1,p.2.2.2.2.2.2.1,p.2.2.2.2.2.2.2.1,p.2.2.2.2.2.2.2.2.1,p.2.2.2.2.2.2.2.2.2.1,p.2.2.2.2.2.2.2.2.2.2.1,p.2.2.2.2.2.2.2.2.2.2.2.1,x10,x11,x12,x13,x14,0,x15)
 let x40:=ZHk x39 x36
 let x41:=x40.2
 let x42:=x41.2
 let x43:=x42.2
 let x44:=x43.2
 let x45:=x44.2
 let x46:=x45.2
 let x47:Int:=bif x38 then x46.1 else p.2.2.2.2.2.2.1
 let x48:=x46.2
 let x49:=x48.2
 let x50:=x49.2
 let x51:=x50.2
 let x52:=x51.2
 let x53:=x52.2
 let x54:=x53.2
 let x55:=x54.2
 let x56:=x55.2
 let x57:=x56.2
 let x58:=x57.2
 let x59:=x58.2
 .br (!x9||(x8||(decide (Za7 p<0)||Zkx x17 (Za7 p)))) (.br (x9) (.br (x7) (Ls (((bif decide (Za7 p<0) then p.1 else x18.1,bif decide (Za7 p<0) then p.2.1 else x19.1,bif decide (Za7 p<0) then p.2.2.1 else x20.1,bif decide (Za7 p<0) then p.2.2.2.1 else x21.1,bif decide (Za7 p<0) then p.2.2.2.2.1 else x22.1,bif decide (Za7 p<0) then p.2.2.2.2.2.1 else x23.1,bif decide (Za7 p<0) then p.2.2.2.2.2.2.1 else x24.1,bif decide (Za7 p<0) then p.2.2.2.2.2.2.2.1 else x25.1,bif decide (Za7 p<0) then p.2.2.2.2.2.2.2.2.1 else x26.1,bif decide (Za7 p<0) then p.2.2.2.2.2.2.2.2.2.1 else x27.1,bif decide (Za7 p<0) then p.2.2.2.2.2.2.2.2.2.2.1 else x28.1,bif decide (Za7 p<0) then p.2.2.2.2.2.2.2.2.2.2.2.1 else x29.1,bif decide (Za7 p<0) then x10 else x30.1,bif decide (Za7 p<0) then x11 else x31.1,bif decide (Za7 p<0) then x12 else x32.1,bif decide (Za7 p<0) then x13 else x33.1,bif decide (Za7 p<0) then x14 else x34.1,1,bif decide (Za7 p<0) then 7 else Za7 p,bif decide (Za7 p<0) then decide (Za7 p<0) else x34.2.2.2),205))) (.br (x6==1) (.br p.2.2.1 (Ls ((x35,u8.wrap (andI u8 p.2.2.2.2.2.1 224+u8.wrap (i64.wrap (4*x36)))))) (Ls ((x35,u8.wrap (andI u8 p.2.2.2.2.2.1 192+u8.wrap (i64.wrap (8*x36))))))) (.br (!x38||Zrg x39 x36) (Ls (((bif x38 then x40.1 else p.1,bif x38 then x41.1 else p.2.1,bif x38 then x42.1 else p.2.2.1,bif x38 then x43.1 else p.2.2.2.1,bif x38 then x44.1 else p.2.2.2.2.1,bif x38 then x45.1 else p.2.2.2.2.2.1,x47,bif x38 then x48.1 else p.2.2.2.2.2.2.2.1,bif x38 then x49.1 else p.2.2.2.2.2.2.2.2.1,bif x38 then x50.1 else p.2.2.2.2.2.2.2.2.2.1,bif x38 then x51.1 else p.2.2.2.2.2.2.2.2.2.2.1,bif x38 then x52.1 else p.2.2.2.2.2.2.2.2.2.2.2.1,bif x38 then x53.1 else x10,bif x38 then x54.1 else x11,bif x38 then x55.1 else x12,bif x38 then x56.1 else x13,bif x38 then x57.1 else x14,bif x38 then x58.1 else 0,bif x38 then x59.1 else x16,bif x38 then x59.2 else x37),x47))) Ln))) Ln) Ln
def ZV8 (p:PICT):PICT×Int:=getO ZU5.Df (ZxH p).val
def ZMh (p:PICT):Bool:=okB (ZxH p).val
def ZYS:En:=Zi ZL2 ZU5 (λa=>some (ZMh a)) (λa=>ZV8 a)
theorem ZRH:Zb prog 203 ZYS:=
 pureP 134219839 [(268,Ztm),(271,ZAF),(272,ZMd)] [] _ _ ⟨ZnH,ZxE,ZEY,Tv⟩ Tryz.func203 Tryz.call203 trivial
abbrev ZC9:List Sh:=[Sh.agg (R.Pq Kb (R.Pq Ka Kc))]
def ZPL (d:QT3):RT (Bool):=
 .Lf (decide (d.2.2>0))
def ZTe (d:QT3):Bool:=(ZPL d).val
def ZUG:En:=Zi ZC9 Zn6 (λ_=>none) (λa=>ZTe a)
theorem ZGy:Zb prog 141 ZUG:=
 pureQ 7 [] [] _ _ trivial Tryz.func141 Tryz.call141 trivial
abbrev Zvq:List Sh:=[Sh.agg (R.Pq Kb (R.Pq Ka Kc)),So Kc]
def ZDb (d:QT3) (r:Int):RT (Int):=
 .br (andI i64 r 3==0) (.Lf (u8.wrap d.1)) (.br (andI i64 r 3==1) (.Lf (u8.wrap (shrI u16 d.1 8))) (.br (andI i64 r 3==2) (.Lf d.2.1) (.Lf (u8.wrap d.2.2))))
def ZGz (d:QT3) (r:Int):Int:=(ZDb d r).val
def ZXQ:En:=Zi Zvq ZN3 (λ_=>none) (λa=>ZGz a.1 a.2)
theorem ZPM:Zb prog 206 ZXQ:=
 pureQ 266399 [] [] _ _ trivial Tryz.func206 Tryz.call206 trivial
abbrev ZpX:List Sh:=[Sh.agg (R.Pq Kb (R.Pq Ka Kc)),So Kc,So Ka]
abbrev ZpY:Rs:=Rs.one (Sh.agg (R.Pq Kb (R.Pq Ka Kc)))
def Zvp (d:QT3) (r:Int) (v:Int):RT (QT3):=
 .Lf ((bif andI i64 r 3==0 then orI u16 (andI u16 d.1 65280) (u16.wrap v) else bif andI i64 r 3==1 then orI u16 (andI u16 d.1 255) (shlI u16 (u16.wrap v) 8) else d.1,bif andI i64 r 3==0 then d.2.1 else bif andI i64 r 3==1 then d.2.1 else bif andI i64 r 3==2 then v else d.2.1,bif andI i64 r 3==0 then d.2.2 else bif andI i64 r 3==1 then d.2.2 else bif andI i64 r 3==2 then d.2.2 else bif andI i64 r 3==3 then i64.wrap v else d.2.2))
def ZC5 (d:QT3) (r:Int) (v:Int):QT3:=(Zvp d r v).val
def ZTc:En:=Zi ZpX ZpY (λ_=>none) (λa=>ZC5 a.1 a.2.1 a.2.2)
theorem ZI1:Zb prog 208 ZTc:=
 pureQ 4563665535 [] [] _ _ trivial Tryz.func208 Tryz.call208 trivial
abbrev ZC7:Rs:=Rs.tup [Sh.agg (R.Pq Kb (R.Pq Ka Kc)),Sh.agg (R.Pq Kb Ka),So R.bool]
def ZPJ (d:QT3):RT ((QT3)×(Int×Int)×Bool):=
 .br (!ZTe d) (.Lf (((0,0,0),(0,0),false))) (.Lf (((u16.wrap (d.1+1),d.2.1,i64.wrap (d.2.2-1)),(d.1,d.2.1),true)))
def ZXP (d:QT3):(QT3)×(Int×Int)×Bool:=(ZPJ d).val
def ZZE:En:=Zi ZC9 ZC7 (λ_=>none) (λa=>ZXP a)
theorem ZTd:Zb prog 142 ZZE:=
 pureQ 63 [(141,ZUG)] [] _ _ ⟨ZGy,Tv⟩ Tryz.func142 Tryz.call142 trivial
def mapG {α β:Type} (φ:α->β):Go1 α->Go1 β
 | .cont a=>.cont (φ a)
 | .brk a=>.brk (φ a)
 | .ret a=>.ret (φ a)
theorem ZD3 {α β:Type} (φ:α->β) {f:α->Option (Go1 α)} {g:β->Option (Go1 β)} (h:∀a,g (φ a)=(f a).map (mapG φ)):∀(n:Nat) (a:α),runL g n (φ a)=(runL f n a).map λr=>(r.1,φ r.2)
 |0,a=>rfl
 |n+1,a=>by
  unfold runL;rw[h a];cases hf:f a with
  |none=>rfl
  |some r=>cases r with
   |cont a'=>exact ZD3 φ h n a'
   |brk a'=>rfl
   |ret a'=>rfl
theorem ZD5 {β:Type} (φ:α->β) {f:α->RT (Option (Go1 α))} {g:β->RT (Option (Go1 β))} (h:∀a,(g (φ a)).val=((f a).val).map (mapG φ)) (fl:Bool) (n:Nat) (a:α):
  runF fl g (λ_=>n) (φ a)=(runF fl f (λ_=>n) a).map λr=>(r.1,φ r.2):=by
 unfold runF;rw[ZD3 φ h n a];cases runL (λa=>(f a).val) n a with
 |none=>rfl
 |some r=>obtain⟨b,d⟩:=r;cases fl<;>cases b<;>rfl
theorem ZIS:(List.range 256).all (λs=>(List.range 8).all λk=>(Zio (s:Int) (k:Int)).val==some (Zc4 (s:Int) (k:Int))&&ZiI (s:Int) (k:Int))=true:=by kernel_rfl
theorem Zzx (k:Int):andI .i64 (andI .i64 k 7) 7=andI .i64 k 7:=by
 obtain⟨h0,h1⟩:=and7 k;generalize andI .i64 k 7=v at*;have:v=0\/v=1\/v=2\/v=3\/v=4\/v=5\/v=6\/v=7:=by omega
 rcases this with rfl|rfl|rfl|rfl|rfl|rfl|rfl|rfl<;>decide
def phiK (a:QT27):QT27:=(a.1,andI .i64 a.2.1 7,a.2.2)
theorem ZRx (s k:Int):(Zio s k).val=(Zio s (andI .i64 k 7)).val:=by
 have h:=ZD5 phiK (f:=Zdy) (g:=Zdy) (by
  rintro⟨s,k,r,i,u⟩;simp only[Zdy,phiK,RT.val,Zzx]
  cases h3:(andI u8 (shrI u8 s (andI i64 (i64.wrap (andI i64 k 7+i)) 7)) 1==1)<;>by_cases h1:i<=8<;>by_cases h2:0<=andI i64 (i64.wrap (andI i64 k 7+i)) 7<;>simp[h1,h2,mapG,phiK]) true 9 (s,k,0,1,())
 have h':runF true Zdy (λ_=>9) (s,andI .i64 k 7,0,1,())=(runF true Zdy (λ_=>9) (s,k,0,1,())).map λr=>(r.1,phiK r.2):=h
 simp only[Zio,RT.val,h'];cases runF true Zdy (λ_=>9) (s,k,0,1,()) with
 |none=>rfl
 |some r=>obtain⟨b,d⟩:=r;cases b<;>rfl
theorem ZU6 (l k:Int):Zdd l (andI .i64 k 7)=Zdd l k:=by simp only[Zdd,ZJB,RT.val,Zzx]
theorem ZJE (s k:Int):(Zlj s k).val=(Zlj s (andI .i64 k 7)).val:=by
 have h:=ZD5 phiK (f:=Zdv) (g:=Zdv) (by
  rintro⟨s,k,r,i,u⟩;simp only[Zdv,phiK,RT.val,ZU6]
  cases h3:vOnC s i<;>by_cases h1:i<8<;>by_cases q1:r<0<;>by_cases q2:Zdd i k<Zdd r k<;>cases vOn s i<;>simp[h1,q1,q2,mapG,phiK]) false 9 (s,k,-1,0,())
 have h':runF false Zdv (λ_=>9) (s,andI .i64 k 7,-1,0,())=(runF false Zdv (λ_=>9) (s,k,-1,0,())).map λr=>(r.1,phiK r.2):=h
 simp only[Zlj,RT.val,h'];cases runF false Zdv (λ_=>9) (s,k,-1,0,()) with
 |none=>rfl
 |some r=>rfl
theorem ZCW (s k:Int) (hs:inR .u8 s):Zip s k=true/\ZiI s k=true/\Zjf s k=Zc4 s k:=by
 obtain⟨h0,h1⟩:=and7 k;rw[Zh5] at hs;obtain⟨a,rfl⟩:∃a:Nat,s=(a:Int):=⟨s.toNat,by omega⟩;obtain⟨b,hb⟩:∃b:Nat,andI .i64 k 7=(b:Int):=⟨(andI .i64 k 7).toNat,by omega⟩;have key:=YV.1 (YV.1 ZIS a (by simp;omega)) b (by simp;omega);simp only[Yc,Yav] at key;obtain⟨k1,k2⟩:=key;have e1:=ZRx (a:Int) k;have e2:=ZJE (a:Int) k;rw[hb] at e1 e2;rw[k1] at e1;have e3:Zc4 (a:Int) k=Zc4 (a:Int) (b:Int):=by simp only[Zc4,e2]
 have e4:ZiI (a:Int) k=true:=by simp only[ZiI,e2];exact k2
 refine⟨by simp only[Zip,e1,okB],e4,?_⟩;simp only[Zjf,e1,getO,e3]
theorem ZVN (l k:Int):ZxA l k=Zdd l k:=by
 simp only[ZxA,ZAA,Zdd,ZJB,RT.val];obtain⟨a0,a1⟩:=and7 l;obtain⟨b0,b1⟩:=and7 k;generalize andI .i64 l 7=a at*;generalize andI .i64 k 7=b at*;obtain⟨x,rfl⟩:∃x:Nat,a=(x:Int):=⟨a.toNat,by omega⟩;obtain⟨y,rfl⟩:∃y:Nat,b=(y:Int):=⟨b.toNat,by omega⟩;have key:(List.range 8).all (λx=>(List.range 8).all λy=>andI i64 (i64.wrap (i64.wrap ((x:Int)-(y:Int))+7)) 7==andI i64 (i64.wrap (i64.wrap ((x:Int)-(y:Int))+15)) 7)=true:=by kernel_rfl
 have:=YV.1 (YV.1 key x (by simp;omega)) y (by simp;omega);simpa using this
theorem ZES (r m s k:Int) (p:Bool) (hs:inR .u8 s):Ztc r m s k p=true/\ZmK r m s k p=true/\ZEQ r m s k p=ZvV r m s k p:=by
 obtain⟨a1,a2,a3⟩:=ZCW (ZY u8 r m) k (Zau _ _);have hb:inR .u8 (ZcN m s p):=by
  cases p
  ·simpa [ZcN,ZmM,RT.val] using hs
  ·have:ZcN m s true=ZY u8 s m:=by simp[ZcN,ZmM,RT.val]
   rw[this];exact Zau _ _
 have eb:(bif p then ZY u8 s m else s)=ZcN m s p:=by cases p<;>simp[ZcN,ZmM,RT.val]
 obtain⟨b1,b2,b3⟩:=ZCW (ZcN m s p) k hb;have h1:(ZnA r m s k p).val=(Zgt r m s k p).val:=by
  simp only[ZnA,Zgt,RT.val,eb,a1,a2,b1,b2,a3,b3,ZVN,Ya,Yi];generalize Zc4 (ZY u8 r m) k=x;generalize Zc4 (ZcN m s p) k=y;by_cases q1:x<0
  ·have:¬x>=0:=by omega
   simp[q1,this]
  ·have q1':x>=0:=by omega
   by_cases q2:y<0
   ·have:¬y>=0:=by omega
    simp[q1,q1',q2,this]
   ·have q2':y>=0:=by omega
    by_cases q3:Zdd x k<Zdd y k
    ·have:¬Zdd x k>=Zdd y k:=by omega
     simp[q1,q1',q2,q2',q3,this]
    ·have q3':Zdd x k>=Zdd y k:=by omega
     simp[q1,q1',q2,q2',q3,q3']
 have h2:ZmK r m s k p=true:=by simp only[ZmK,Zgt,RT.val,a2,b2,Ya];cases (decide (Zc4 (ZY u8 r m) k>=0)&&(decide (Zc4 (ZcN m s p) k<0)||decide (Zdd (Zc4 (ZY u8 r m) k) k<Zdd (Zc4 (ZcN m s p) k) k)))<;>rfl
 refine⟨?_,h2,by simp only[ZEQ,ZvV,h1]⟩;simp only[Ztc,h1];exact h2
theorem ZK0 (p:PICT):ZHh p=vReq p:=by simp only[ZHh,ZL3,vReq,ZU4,RT.val]
theorem ZRg (p:PICT) (l:Int):ZAI p l=Zfa p l:=by simp only[ZAI,Ztk,Zfa,ZJC,RT.val]
theorem ZMq (p:PICT) (hs:inR .u8 p.2.2.2.2.2.2.2.2.2.2.2.2.2.2.1):Zky p=true/\Zr7 p=true/\Za7 p=vPck p:=by
 obtain⟨h1,h2,h3⟩:=ZES (vReq p) p.2.2.2.2.2.2.2.2.2.2.2.2.2.2.2.1 p.2.2.2.2.2.2.2.2.2.2.2.2.2.2.1 p.2.2.2.2.2.2.2.2.2.2.2.2.2.2.2.2.1 p.2.2.2.2.2.2.2.2.2.1 hs;have e1:(ZnI p).val=some (ZvV (vReq p) p.2.2.2.2.2.2.2.2.2.2.2.2.2.2.2.1 p.2.2.2.2.2.2.2.2.2.2.2.2.2.2.1 p.2.2.2.2.2.2.2.2.2.2.2.2.2.2.2.2.1 p.2.2.2.2.2.2.2.2.2.1):=by simp only[ZnI,RT.val,ZK0,h1,h3,Ya]
 have e2:(ZvW p).val=some (ZvV (vReq p) p.2.2.2.2.2.2.2.2.2.2.2.2.2.2.2.1 p.2.2.2.2.2.2.2.2.2.2.2.2.2.2.1 p.2.2.2.2.2.2.2.2.2.2.2.2.2.2.2.2.1 p.2.2.2.2.2.2.2.2.2.1):=by simp only[ZvW,RT.val,h2,Ya]
 exact⟨by simp only[Zky,e1,okB],by simp only[Zr7,e2,okB],by simp only[Za7,vPck,e1,e2]⟩
theorem ZUz (p:PICT) (hs:inR .u8 p.2.2.2.2.2.2.2.2.2.2.2.2.2.2.1):ZMa p=true/\ZYa p=true/\ZV7 p=vInt p:=by
 obtain⟨h1,h2,h3⟩:=ZES (vReq p) p.2.2.2.2.2.2.2.2.2.2.2.2.2.2.2.1 p.2.2.2.2.2.2.2.2.2.2.2.2.2.2.1 p.2.2.2.2.2.2.2.2.2.2.2.2.2.2.2.2.1 p.2.2.2.2.2.2.2.2.2.1 hs;obtain⟨g1,g2,g3⟩:=ZMq p hs;have e2:(ZJD p).val=some (decide (vPck p>=0)):=by simp only[ZJD,RT.val,g2,Ya]
 have e1:(ZxF p).val=some (decide (vPck p>=0)):=by simp only[ZxF,RT.val,g1,g3,ZK0,h1,h3,Ya]
 exact⟨by simp only[ZMa,e1,okB],by simp only[ZYa,e2,okB],by simp only[ZV7,vInt,e1,e2]⟩
theorem ZPH (d):ZTe d=Zag d:=by simp only[ZTe,ZPL,Zag,ZvT,RT.val]
theorem ZPF (d:QT3) (r v:Int):ZC5 d r v=Zic d r v:=by
 obtain⟨h0,h3⟩:=and3 r;simp only[ZC5,Zvp,Zic,ZDv,RT.val];generalize andI .i64 r 3=q at*;have:q=0\/q=1\/q=2\/q=3:=by omega
 rcases this with rfl|rfl|rfl|rfl<;>simp
theorem ZXO (d):ZXP d=ZbH d:=by simp only[ZXP,ZPJ,ZbH,Zka,RT.val,ZPH]
theorem ZTa (d:QT3) (r:Int):ZJA d r=true/\ZGz d r=ZmJ d r:=by
 obtain⟨h0,h3⟩:=and3 r;have hv:(Zr5 d r).val=some (ZGz d r):=by
  simp only[Zr5,ZGz,ZDb,RT.val];generalize andI .i64 r 3=q at*;have:q=0\/q=1\/q=2\/q=3:=by omega
  rcases this with rfl|rfl|rfl|rfl<;>simp[iN,Le]
 exact⟨by simp only[ZJA,hv,okB],by simp only[ZmJ,hv,getO]⟩
theorem ZQS (p:PICT) (x:Int):Ztg p x=ZvS p x:=rfl
theorem ZKo (p:PICT) (x:Int):Zrf p x=ZGP p x/\Zkx p x=ZhU p x:=by simp only[Zrf,ZGP,Zkx,ZhU,ZQS];exact⟨trivial,Tv⟩
theorem ZXH (p:PICT) (x:Int):ZEZ p x=ZDz p x:=rfl
theorem ZUE (p:PICT) (x:Int):ZHk p x=ZJF p x/\Zrg p x=ZiJ p x:=by simp only[ZHk,ZJF,Zrg,ZiJ,ZXH];exact⟨trivial,Tv⟩
theorem ZXT (p:PICT) (v:Int):ZE2 p v=Zr8 p v:=by simp only[ZE2,ZAL,Zr8,ZvZ,RT.val];cases p.2.2.2.1<;>rfl
theorem ZTL (p:PICT) (x:Int):Zrf p x=ZGP p x:=(ZKo p x).1
theorem ZTK (p:PICT) (x:Int):Zkx p x=ZhU p x:=(ZKo p x).2
theorem ZZA (p:PICT) (x:Int):ZHk p x=ZJF p x:=(ZUE p x).1
theorem ZZz (p:PICT) (x:Int):Zrg p x=ZiJ p x:=(ZUE p x).2
theorem ZX3 (p:PICT) (hs:inR .u8 p.2.2.2.2.2.2.2.2.2.2.2.2.2.2.1):(ZxH p).val=(ZJG p).val:=by
 obtain⟨g1,g2,g3⟩:=ZMq p hs;have hd:decide (vPck p>=0)= !decide (vPck p<0):=by
  by_cases h:vPck p<0
  ·have:¬vPck p>=0:=by omega
   simp[h,this]
  ·have:vPck p>=0:=by omega
   simp[h,this]
 simp only[ZxH,ZJG,RT.val,g1,g2,g3,ZTL,ZTK,ZZA,ZZz,hd];cases h:decide (vPck p<0)
 ·have h0:decide (0<=vPck p)=true:=by simp at h|-;omega
  simp only[ZGP,ZhU,ZvS,RT.val,h0,getO,okB,Yf,Yl,Ya,Yb,Yv,Yj]
 ·simp only[Yf,Yl,Ya,Yb,Yv,Yj]
theorem ZUS (p:PICT) (hs:inR .u8 p.2.2.2.2.2.2.2.2.2.2.2.2.2.2.1):ZV8 p=vAck p/\ZMh p=ZQC p:=by simp only[ZV8,vAck,ZMh,ZQC,ZX3 p hs];exact⟨trivial,Tv⟩
theorem ZZj (x:Int):decide (x>=0)= !decide (x<0):=by by_cases h:x<0<;>simp[h]<;>omega
theorem ZZk (x:Int):decide (0<=x)= !decide (x<0):=by by_cases h:x<0<;>simp[h]<;>omega
theorem ZSw (p:PICT) (v:Int) (hs:inR .u8 p.2.2.2.2.2.2.2.2.2.2.2.2.2.2.1):(ZxG p v).val=(ZvX p v).val:=by
 have eb:(bif p.2.2.2.2.2.2.2.2.2.1 then ZY u8 p.2.2.2.2.2.2.2.2.2.2.2.2.2.2.1 p.2.2.2.2.2.2.2.2.2.2.2.2.2.2.2.1 else p.2.2.2.2.2.2.2.2.2.2.2.2.2.2.1)=ZcN p.2.2.2.2.2.2.2.2.2.2.2.2.2.2.2.1 p.2.2.2.2.2.2.2.2.2.2.2.2.2.2.1 p.2.2.2.2.2.2.2.2.2.1:=by cases p.2.2.2.2.2.2.2.2.2.1<;>simp[ZcN,ZmM,RT.val]
 have hb:inR .u8 (ZcN p.2.2.2.2.2.2.2.2.2.2.2.2.2.2.2.1 p.2.2.2.2.2.2.2.2.2.2.2.2.2.2.1 p.2.2.2.2.2.2.2.2.2.1):=by
  rw[<-eb];cases p.2.2.2.2.2.2.2.2.2.1
  ·exact hs
  ·exact Zau _ _
 obtain⟨h1,h2,h3⟩:=ZCW _ p.2.2.2.2.2.2.2.2.2.2.2.2.2.2.2.2.1 hb;have h4:decide (0<=IntKind.wrap .i64 (andI .u8 v 7))=true:=by have:=ZZM v;rw[wrap_i64 _ (by omega) (by omega)];exact Yq this.1
 simp only[ZxG,ZvX,RT.val,eb,h1,h2,h3,h4,ZZj,ZZk,ZbP,Za3,Yi,Yf,YaB,Bool.not_not,Yy,Yj,Ya,Yb];generalize shrI u8 v 5=w;generalize Zc4 _ _=t;by_cases w0:w=0
 ·subst w0;rfl
 by_cases w1:w=1
 ·subst w1;cases decide (t<0)<;>rfl
 by_cases w3:w=3
 ·subst w3;rfl
 by_cases w4:w=4
 ·subst w4;rfl
 by_cases w5:w=5
 ·subst w5;cases decide (t<0)<;>rfl
 by_cases w6:w=6
 ·subst w6;rfl
 by_cases w7:w=7
 ·subst w7;rfl
 have e0:(w==0)=false:=by simpa using w0
 have e1:(w==1)=false:=by simpa using w1
 have e3:(w==3)=false:=by simpa using w3
 have e4:(w==4)=false:=by simpa using w4
 have e5:(w==5)=false:=by simpa using w5
 have e6:(w==6)=false:=by simpa using w6
 have e7:(w==7)=false:=by simpa using w7
 rw[e0,e1,e3,e4,e5,e6,e7];rfl
theorem ZWZ (p:PICT) (v:Int) (hs:inR .u8 p.2.2.2.2.2.2.2.2.2.2.2.2.2.2.1):ZRG p v=ZU9 p v/\ZE3 p v=ZvY p v:=by simp only[ZRG,ZU9,ZE3,ZvY,ZSw p v hs];exact⟨trivial,Tv⟩
theorem ZJm (p:PICT) (h:Bool) (v:Int) (hs:inR .u8 p.2.2.2.2.2.2.2.2.2.2.2.2.2.2.1):(Zjg p h v).val=(ZmH p h v).val:=by obtain⟨h1,h2⟩:=ZWZ p v hs;have hf:ZmL p v=(2,andI u8 v 8 !=0,andI u8 v 4 !=0,andI u8 v 2 !=0,andI u8 v 1 !=0,andI u8 v 224,0,false,false,false,false,false,p.2.2.2.2.2.2.2.2.2.2.2.2.1,0,0,0,7,0,0,false):=rfl;simp only[Zjg,ZmH,RT.val,h1,h2,hf,ZXT,Bool.or_comm (andI u8 v 4 !=0)]
theorem ZDp (p:PICT) (h:Bool) (v:Int) (hs:inR .u8 p.2.2.2.2.2.2.2.2.2.2.2.2.2.2.1):ZAE p h v=ZmI p h v/\Ztf p h v=Zr4 p h v:=by simp only[ZAE,ZmI,Ztf,Zr4,ZJm p h v hs];exact⟨trivial,Tv⟩
def Zr9 (p:PICT):PICT:=(p.1,p.2.1,p.2.2.1,p.2.2.2.1,p.2.2.2.2.1,p.2.2.2.2.2.1,p.2.2.2.2.2.2.1,p.2.2.2.2.2.2.2.1,p.2.2.2.2.2.2.2.2.1,p.2.2.2.2.2.2.2.2.2.1,p.2.2.2.2.2.2.2.2.2.2.1,false,p.2.2.2.2.2.2.2.2.2.2.2.2)
theorem Zqy (p:PICT):vPck (Zr9 p)=vPck p/\Zr7 (Zr9 p)=Zr7 p:=⟨rfl,rfl⟩
theorem ZRz (x:Int) (h0: -1<=x) (h1:x<=7):IntKind.wrap .u8 (128+IntKind.wrap .u8 x)=IntKind.wrap .u8 (IntKind.wrap .i64 (128+x)):=by
 have:x= -1\/x=0\/x=1\/x=2\/x=3\/x=4\/x=5\/x=6\/x=7:=by omega
 rcases this with rfl|rfl|rfl|rfl|rfl|rfl|rfl|rfl|rfl<;>decide
theorem ZRd (p:PICT) (h:Bool) (hs:inR .u8 p.2.2.2.2.2.2.2.2.2.2.2.2.2.2.1):(ZnD p h).val=(ZvU p h).val:=by obtain⟨g1,g2,g3⟩:=ZMq (Zr9 p) hs;rw[(Zqy p).1] at g3;rw[(Zqy p).2] at g2;obtain⟨_,a1,a2⟩:=Zr6 p;have hx:(p.1,p.2.1,p.2.2.1,p.2.2.2.1,p.2.2.2.2.1,p.2.2.2.2.2.1,p.2.2.2.2.2.2.1,p.2.2.2.2.2.2.2.1,p.2.2.2.2.2.2.2.2.1,p.2.2.2.2.2.2.2.2.2.1,p.2.2.2.2.2.2.2.2.2.2.1,false,p.2.2.2.2.2.2.2.2.2.2.2.2)=Zr9 p:=rfl;simp only[ZnD,ZvU,RT.val,hx,g1,g2,g3,ZTL,ZTK,ZZA,ZZz,ZK0,ZRz _ a1 a2,ZbP,Za3,Yi,Yf,Yj]
theorem ZK4 (p:PICT) (h:Bool) (hs:inR .u8 p.2.2.2.2.2.2.2.2.2.2.2.2.2.2.1):ZL7 p h=Zql p h/\ZAG p h=ZDx p h:=by simp only[ZL7,Zql,ZAG,ZDx,ZRd p h hs];exact⟨trivial,Tv⟩
theorem Zlr {p:PICT} (h:okHL ZL2 p):inR .u8 p.2.2.2.2.2.2.2.2.2.2.2.2.2.2.1:=h.2.2.2.2.2.2.2.2.2.2.2.2.2.2.1
def ZAJ:En:=Zi ZL2 Zn6 (λ_=>none) (λa=>vInt a)
theorem ZMb:Zb prog 199 ZAJ:=ZRE.tot (λa h=>by have:=(ZUz a (Zlr h)).1;simp[this]) (λa h=>(ZUz a (Zlr h)).2.2)
def ZnG:En:=Zi ZnE ZU8 (λ_=>none) (λa=>Zfa a.1 a.2)
theorem ZAH:Zb prog 198 ZnG:=ZHj.tot (λa h=>by simp) (λa h=>ZRg _ _)
def ZnC:En:=Zi ZnB ZU8 (λ_=>none) (λa=>ZmI a.1 a.2.1 a.2.2)
theorem ZAD:Zb prog 207 ZnC:=ZHg.tot (λa h=>by have h1:=(ZDp a.1 a.2.1 a.2.2 (Zlr h.1)).2;have h2:=ZJz a.1 a.2.1 a.2.2;rw[h2] at h1;simp[h1]) (λa h=>(ZDp a.1 a.2.1 a.2.2 (Zlr h.1)).1)
def Ztj:En:=Zi Zti ZU5 (λ_=>none) (λa=>Zql a.1 a.2)
theorem ZHi:Zb prog 205 Ztj:=ZL6.tot (λa h=>by have h1:=(ZK4 a.1 a.2 (Zlr h.1)).2;have h2:=ZQz a.1 a.2;rw[h2] at h1;simp[h1]) (λa h=>(ZK4 a.1 a.2 (Zlr h.1)).1)
def ZAO:En:=Zi ZL2 ZU5 (λ_=>none) (λa=>vAck a)
theorem ZMi:Zb prog 203 ZAO:=ZRH.tot (λa h=>by have h1:=(ZUS a (Zlr h)).2;have h2:=ZVe a;rw[h2] at h1;simp[h1]) (λa h=>(ZUS a (Zlr h)).1)
def Zp0:En:=Zi ZC9 Zn6 (λ_=>none) (λa=>Zag a)
theorem Zzh:Zb prog 141 Zp0:=ZGy.tot (λa h=>by simp) (λa h=>ZPH _)
def Zvs:En:=Zi Zvq ZN3 (λ_=>none) (λa=>ZmJ a.1 a.2)
theorem ZI2:Zb prog 206 Zvs:=ZPM.tot (λa h=>by simp) (λa h=>(ZTa _ _).2)
def ZpZ:En:=Zi ZpX ZpY (λ_=>none) (λa=>Zic a.1 a.2.1 a.2.2)
theorem ZC4:Zb prog 208 ZpZ:=ZI1.tot (λa h=>by simp) (λa h=>ZPF _ _ _)
def ZC8:En:=Zi ZC9 ZC7 (λ_=>none) (λa=>ZbH a)
theorem ZPK:Zb prog 142 ZC8:=ZTd.tot (λa h=>by simp) (λa h=>ZXO _)
def Zvw:En:=Zi [.one (.sl (R.Pq Kb Ka))] (.one (.one (.sl (R.Pq Kb Ka)))) (λl=>some (Nat.ble l.length most)) (λl=>l)
theorem ZI3:Zb prog 98 Zvw:=
 ZSx (P:=prog) (n:=15) (k:=8) (l:=[]) (ol:=[]) trivial Tryz.func98 rfl (by kernel_rfl) Tryz.call98 trivial (r:=R.Pq (R.int u16) (R.int u8)) (rs:=.one (.one (.sl (R.Pq (R.int u16) (R.int u8))))) (pre:=λl=>Nat.ble l.length most) (F:=λl=>l) (by kernel_rfl)
  (λl h=>by
   have e:(evOf (envX prog [] [] 15 8) Tryz.f98 (.one (.one (.sl (R.Pq (R.int u16) (R.int u8))))) [.w (.one (.lst (R.Pq (R.int u16) (R.int u8)) false false true l))]).val=cond (Nat.ble ([]++l).length most) (some ([]++l)) none:=by kernel_rfl
   rw[e,List.nil_append,h];rfl)
abbrev Zzn:List Sh:=[Sh.agg (R.Pq Kc (R.Pq rcRG (R.Pq Kc (R.Pq Ka (R.Pq Ka (R.Pq R.bool rcCE))))))]
def Zj1 (b:BRDT):RT (Option (Int)):=
 .br (b.1 !=1&&b.1 !=2) (Ls (1)) (.br (smG b.2.1) (.br (ZbO b.2.1 !=0) (Ls (ZbO b.2.1)) (.br (decide (b.2.2.1<0)||(decide (b.2.2.1>100)||smC b.2.2.2.2.2.2)) (.br (decide (b.2.2.1<0)||(decide (b.2.2.1>100)|| !vldB b.2.2.2.2.2.2)) (Ls (1)) (Ls (0))) Ln)) Ln)
def ZiB (b:BRDT):Int:=getO ZUd.Df (Zj1 b).val
def Zj2 (b:BRDT):Bool:=okB (Zj1 b).val
def ZvA:En:=Zi Zzn ZUd (λa=>some (Zj2 a)) (λa=>ZiB a)
theorem ZI6:Zb Tryz.prog 50 ZvA:=
 pureP 15 [(102,ZxQ),(103,ZF1)] [] _ _ ⟨ZAY,ZII,Tv⟩ Tryz.func50 Tryz.call50 trivial
