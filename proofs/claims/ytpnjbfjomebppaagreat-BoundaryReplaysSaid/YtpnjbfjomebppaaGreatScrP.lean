import Derived.Test.YtpnjbfjomebppaaGreatIsaQ
open Go.IntKind (u8 u16 i64)
open Go Go.S3 Go.Proofs Go.Proofs.Cells
set_option linter.unusedVariables false
set_option linter.unusedSimpArgs false
set_option maxRecDepth 100000
namespace Go.Proofs.YtpnjbfjomebppaaGreat
noncomputable section
theorem smCb {l:List Cell} (h:l.length<=1000000):smC l=true:=Zan (by have:=mst;omega)
theorem smGb {l:List Z6} (h:l.length<=1000000):smG l=true:=Zan (by have:=mst;omega)
def Zam (b:BRDT) (s:SYST) (i:INPT):SYST:=(s.1,s.2.1,(bif !b.2.2.2.2.2.1 then ZFD s.2.2.1 i.2.2.2.2.2.2.2.2.1 else s.2.2.1),s.2.2.2)
def ZgC (b:BRDT) (s:SYST) (i:INPT):LINT:=
 (i.1&&decide (ZhI s>=ZTq b s.1.2.2.2.1),i.2.1||Zb7 s.2.2.2.1,i.2.2.1,i.2.2.2.1,i.2.2.2.2.1,i.2.2.2.2.2.1,i.2.2.2.2.2.2.1,i.2.2.2.2.2.2.2.1,
  bif b.2.2.2.2.2.1 then andI .u8 i.2.2.2.2.2.2.2.2.1 1==1 else vInt s.2.2.1)
def busS (b:BRDT) (s:SYST) (i:INPT):SYST×Int:=
 let x:=s.1.2.2.2.1
 let q:=Zdj b (IntKind.wrap .u8 x.2.1)
 let d:=ZfZ b (IntKind.wrap .u8 x.2.1)
 bif i.2.2.1||(Zaw s.1 !=3|| !Zcz x.1) then (s,0) else
 bif decide (x.1>=1)&&decide (x.1<=5) then (s,Zrf b.2.1 s.2.1 x.2.1) else
 bif x.1 !=6&&b.2.2.2.2.2.1 then (s,i.2.2.2.2.2.2.2.2.2) else
 bif x.1 !=6 then ((s.1,s.2.1,(vAck s.2.2.1).1,s.2.2.2),(vAck s.2.2.1).2) else
 bif q.2 then ((s.1,s.2.1,(ZTy s.2.2.1 q.1).1,s.2.2.2),(ZTy s.2.2.1 q.1).2) else
 bif d.2 then (s,ZMV s.2.2.2.1 d.1) else (s,i.2.2.2.2.2.2.2.2.2)
def Zhx (b:BRDT) (s:SYST) (x:TY):SYST:=
 let q:=Zdj b (IntKind.wrap .u8 x.2.1)
 let d:=ZfZ b (IntKind.wrap .u8 x.2.1)
 bif x.1 !=7 then (s.1,Zay b.2.1 s.2.1 x.2.1 x.2.2.1,s.2.2) else
 (s.1,s.2.1,(bif q.2 then ZMN s.2.2.1 q.1 x.2.2.1 else s.2.2.1),(bif q.2 then s.2.2.2.1 else bif d.2 then ZAI s.2.2.2.1 d.1 x.2.2.1 else s.2.2.2.1),s.2.2.2.2.1,
  s.2.2.2.2.2++[(IntKind.wrap .u8 x.2.1,x.2.2.1)])
def stepP (p:PICT) (n:Int):PICT:=
 (p.1,p.2.1,p.2.2.1,p.2.2.2.1,p.2.2.2.2.1,p.2.2.2.2.2.1,p.2.2.2.2.2.2.1,p.2.2.2.2.2.2.2.1,p.2.2.2.2.2.2.2.2.1,p.2.2.2.2.2.2.2.2.2.1,p.2.2.2.2.2.2.2.2.2.2.1,p.2.2.2.2.2.2.2.2.2.2.2.1,
  p.2.2.2.2.2.2.2.2.2.2.2.2.1,p.2.2.2.2.2.2.2.2.2.2.2.2.2.1,p.2.2.2.2.2.2.2.2.2.2.2.2.2.2.1,p.2.2.2.2.2.2.2.2.2.2.2.2.2.2.2.1,p.2.2.2.2.2.2.2.2.2.2.2.2.2.2.2.2.1,n,p.2.2.2.2.2.2.2.2.2.2.2.2.2.2.2.2.2.2)
def Z2n (p:PINT):Bool:=p.2.2.2.2.2.2.2.2.2.2.2.2.2.2.2.1
def ZAw (s:SYST) (i:INPT):Bool:= !i.2.2.1&&(Zaw s.1==3&&Zj1 s.1.2.2.2.1.1)
def Zia (b:BRDT) (s:SYST) (i:INPT):SYST:=
 let t:=Zam b s i
 let u:=busS b t i
 ((ZcF u.1.1 (ZgC b t i) u.2),u.1.2.1,u.1.2.2.1,u.1.2.2.2.1,ZhI t,u.1.2.2.2.2.2)
def ZfH (b:BRDT) (s:SYST) (i:INPT):SYST:=bif ZAw s i then Zhx b (Zia b s i) s.1.2.2.2.1 else Zia b s i
def pinS (b:BRDT) (s:SYST) (i:INPT):PINT:=ZCQ (busS b (Zam b s i) i).1.1 (ZgC b (Zam b s i) i) (busS b (Zam b s i) i).2
def Zzo (b:BRDT) (s:SYST) (i:INPT):Bool:=Z2n (pinS b s i)&&Zb7 (ZfH b s i).2.2.2.1
def ZRW (b:BRDT) (s:SYST) (i:INPT):SYST:=
 let w:=ZfH b s i
 bif Zzo b s i then (w.1,Zay b.2.1 w.2.1 w.2.2.2.1.1 w.2.2.2.1.2.1,w.2.2.1,(IntKind.wrap .u16 (w.2.2.2.1.1+1),w.2.2.2.1.2.1,IntKind.wrap .i64 (w.2.2.2.1.2.2-1)),w.2.2.2.2) else w
def ZOf (s:SYST) (r:Bool):SYST:=bif r then (s.1,s.2.1,stepP s.2.2.1 0,(s.2.2.2.1.1,s.2.2.2.1.2.1,0),s.2.2.2.2) else s
def Zds (b:BRDT) (s:SYST) (i:INPT):SYST×PINT×LINT×Int×Cell×Bool:=
 (ZOf (ZRW b s i) i.2.2.1,pinS b s i,ZgC b (Zam b s i) i,(busS b (Zam b s i) i).2,
  (bif Zzo b s i then ((ZfH b s i).2.2.2.1.1,(ZfH b s i).2.2.2.1.2.1) else (0,0)),Zzo b s i)
theorem ZTp (b:BRDT) (x:TY) (hg:smG b.2.1=true):ZFd b x=true:=by
 unfold ZFd ZFc;simp only[RT.val,hg,Yf,Ya];cases decide (x.1>=1)&&decide (x.1<=5)
 ·cases x.1==6||x.1==7<;>rfl
 ·rfl
theorem ZIL (b:BRDT) (s:SYST) (i:INPT) (hg:smG b.2.1=true):Zlq b s i=true/\Zsx b s i=ZgC b s i:=by
 have hv:(Zik b s i).val=some (ZgC b s i):=by unfold Zik ZgC;simp only[RT.val,ZYp,ZTp b _ hg,Yf,Ya,YaH]
 exact⟨by simp only[Zlq,hv];rfl,by simp only[Zsx,hv,getO]⟩
theorem ZYe (b:BRDT) (s:SYST) (i:INPT) (hg:smG b.2.1=true) (hc:smC s.2.1=true):ZTu b s i=true/\wBus b s i=busS b s i:=by
 have hv:(ZME b s i).val=some (busS b s i):=by
  unfold ZME busS;simp only[RT.val,ZYs,ZTx,ZMT,hg,hc,ZcN,ZbT,R.sel_eq,YV,Yf,Yg,Yj,Ya];cases i.2.2.1||(Zaw s.1 !=3|| !Zcz s.1.2.2.2.1.1)
  ·cases decide (s.1.2.2.2.1.1>=1)&&decide (s.1.2.2.2.1.1<=5)
   ·cases s.1.2.2.2.1.1 !=6
    ·cases (Zdj b (IntKind.wrap .u8 s.1.2.2.2.1.2.1)).2
     ·cases (ZfZ b (IntKind.wrap .u8 s.1.2.2.2.1.2.1)).2<;>rfl
     ·rfl
    ·cases b.2.2.2.2.2.1<;>rfl
   ·rfl
  ·rfl
 exact⟨by simp only[ZTu,hv];rfl,by simp only[wBus,hv,getO]⟩
theorem ZMh (b:BRDT) (s:SYST) (x:TY) (hg:smG b.2.1=true) (hc:smC s.2.1=true) (ho:s.2.2.2.2.2.length<=1000000):Zsw b s x=true/\ZFb b s x=Zhx b s x:=by
 have hms:=mst;have h1:Nat.ble (List.length s.2.2.2.2.2) most=true:=Zan (by omega);have h2:∀y:Int×Int,Nat.ble (List.length (s.2.2.2.2.2++[y])) most=true:=λy=>Zan (by simp;omega)
 have hv:(Zmh b s x).val=some (Zhx b s x):=by
  unfold Zmh Zhx;simp only[RT.val,ZML,h1,h2,hg,hc,R.sel_eq,YV,Yf,Yg,Yj,Ya,List.nil_append];cases x.1 !=7
  ·rfl
  ·rfl
 exact⟨by simp only[Zsw,hv];rfl,by simp only[ZFb,hv,getO]⟩
theorem ZwP (b:BRDT) (s:SYST) (i:INPT):(busS b s i).1.1=s.1/\(busS b s i).1.2.1=s.2.1/\(busS b s i).1.2.2.2=s.2.2.2:=by
 unfold busS;dsimp only;cases i.2.2.1||(Zaw s.1 !=3|| !Zcz s.1.2.2.2.1.1)
 ·cases decide (s.1.2.2.2.1.1>=1)&&decide (s.1.2.2.2.1.1<=5)
  ·cases s.1.2.2.2.1.1 !=6
   ·cases (Zdj b (IntKind.wrap .u8 s.1.2.2.2.1.2.1)).2
    ·cases (ZfZ b (IntKind.wrap .u8 s.1.2.2.2.1.2.1)).2<;>exact⟨rfl,rfl,rfl⟩
    ·exact⟨rfl,rfl,rfl⟩
   ·cases b.2.2.2.2.2.1<;>exact⟨rfl,rfl,rfl⟩
  ·exact⟨rfl,rfl,rfl⟩
 ·exact⟨rfl,rfl,rfl⟩
theorem ZxO (b:BRDT) (s:SYST) (x:TY):(Zhx b s x).1=s.1/\(Zhx b s x).2.1.length<=s.2.1.length+1/\(Zhx b s x).2.2.2.2.2.length<=s.2.2.2.2.2.length+1:=by
 have:=Zw9 b.2.1 s.2.1 x.2.1 x.2.2.1;unfold Zhx;dsimp only;cases x.1 !=7
 ·exact⟨rfl,by simp only[Yc];omega,by simp only[Yc];simp⟩
 ·exact⟨rfl,by simp only[Ya];omega,by simp only[Ya];omega⟩
theorem ZIt (b:BRDT) (s:SYST) (i:INPT):(Zia b s i).2.1=s.2.1/\(Zia b s i).2.2.2.2.2=s.2.2.2.2.2:=by have h:=ZwP b (Zam b s i) i;unfold Zia;simp only[h.1,h.2.1,h.2.2];exact⟨rfl,rfl⟩
theorem Zw8 (b:BRDT) (s:SYST) (i:INPT):(ZfH b s i).1=(Zia b s i).1/\(ZfH b s i).2.1.length<=s.2.1.length+1/\(ZfH b s i).2.2.2.2.2.length<=s.2.2.2.2.2.length+1:=by
 have h1:=ZIt b s i;have h2:=ZxO b (Zia b s i) s.1.2.2.2.1;rw[h1.1,h1.2] at h2;unfold ZfH;cases ZAw s i
 ·exact⟨rfl,by simp only[Yc,h1.1];omega,by simp only[Yc,h1.2];omega⟩
 ·exact h2
theorem Zz9 (b:BRDT) (s:SYST) (i:INPT):(Zds b s i).1.1=(Zia b s i).1/\(Zds b s i).1.2.1.length<=s.2.1.length+2/\(Zds b s i).1.2.2.2.2.2.length<=s.2.2.2.2.2.length+1:=by have h1:=Zw8 b s i;have h2:=Zw9 b.2.1 (ZfH b s i).2.1 (ZfH b s i).2.2.2.1.1 (ZfH b s i).2.2.2.1.2.1;unfold Zds ZOf ZRW;dsimp only;cases Zzo b s i<;>cases i.2.2.1<;>simp only[Ya,Yc]<;>exact⟨h1.1,by omega,h1.2.2⟩
theorem ZMA (b:BRDT) (s:SYST) (i:INPT) (hg:smG b.2.1=true) (hc:s.2.1.length<=900000) (ho:s.2.2.2.2.2.length<=900000) (hk:s.1.2.2.1.length<=900000):
  ZsD b s i=true/\ZFm b s i=Zds b s i:=by
 have hms:=mst;have hv:(Zmo b s i).val=some (Zds b s i):=by
  have hr:(s.1,s.2.1,(bif !b.2.2.2.2.2.1 then ZFD s.2.2.1 i.2.2.2.2.2.2.2.2.1 else s.2.2.1),s.2.2.2)=Zam b s i:=rfl;have h1:=ZIL b (Zam b s i) i hg;have h2:=ZYe b (Zam b s i) i hg (smCb (by show s.2.1.length<=_;omega));have h3:=ZwP b (Zam b s i) i;have h4:ZOe (busS b (Zam b s i) i).1.1=true:=by rw[h3.1];exact ZmS.2 (by show s.1.2.2.1.length+1<=_;omega)
  have h5:=ZIt b s i;have h6:=ZMh b (Zia b s i) s.1.2.2.2.1 hg (smCb (by rw[h5.1];omega)) (by rw[h5.2];omega);have h7:=Zw8 b s i
  have hcs:(ZcF (busS b (Zam b s i) i).1.1 (ZgC b (Zam b s i) i) (busS b (Zam b s i) i).2,(busS b (Zam b s i) i).1.2.1,(busS b (Zam b s i) i).1.2.2.1,(busS b (Zam b s i) i).1.2.2.2.1,ZhI (Zam b s i),
   (busS b (Zam b s i) i).1.2.2.2.2.2)=Zia b s i:=rfl
  have ht:∀d:QT7,Zir d=bif Zb7 d then ((IntKind.wrap .u16 (d.1+1),d.2.1,IntKind.wrap .i64 (d.2.2-1)),(d.1,d.2.1),true) else ((0,0,0),(0,0),false):=λd=>by unfold Zir ZjM;simp only[RT.val];cases Zb7 d<;>rfl
  have h8:smC (Zhx b (Zia b s i) s.1.2.2.2.1).2.1=true:=smCb (by have:=(ZxO b (Zia b s i) s.1.2.2.2.1).2.1;rw[h5.1] at this;omega);have h9:smC (busS b (Zam b s i) i).1.2.1=true:=smCb (by rw[h3.2.1];show s.2.1.length<=_;omega);unfold Zmo;simp only[hr,RT.val,h1.1,h1.2,h2.1,h2.2,h4,clkX,hcs,h6.1,h6.2,ht,R.sel_eq,Yf,Ya];unfold Zds ZOf ZRW Zzo ZfH ZAw pinS Z2n;dsimp only;cases !i.2.2.1&&(Zaw s.1==3&&Zj1 s.1.2.2.2.1.1)
  ·simp only[Yc,h9,hg,YV,Yf,Ya];cases (ZCQ (busS b (Zam b s i) i).1.1 (ZgC b (Zam b s i) i) (busS b (Zam b s i) i).2).2.2.2.2.2.2.2.2.2.2.2.2.2.2.2.1
   ·cases i.2.2.1<;>rfl
   ·have e:Zb7 ((busS b (Zam b s i) i).1.2.2.2.1.1,(busS b (Zam b s i) i).1.2.2.2.1.2.1,(busS b (Zam b s i) i).1.2.2.2.1.2.2)=Zb7 (Zia b s i).2.2.2.1:=rfl;rw[e];cases Zb7 (Zia b s i).2.2.2.1<;>cases i.2.2.1<;>rfl
  ·simp only[Ya,h8,hg,YV,Yf];cases (ZCQ (busS b (Zam b s i) i).1.1 (ZgC b (Zam b s i) i) (busS b (Zam b s i) i).2).2.2.2.2.2.2.2.2.2.2.2.2.2.2.2.1
   ·cases i.2.2.1<;>rfl
   ·cases Zb7 (Zhx b (Zia b s i) s.1.2.2.2.1).2.2.2.1<;>cases i.2.2.1<;>rfl
 exact⟨by simp only[ZsD,hv];rfl,by simp only[ZFm,hv,getO]⟩
def Zjb {α:Type} (l:List α) (f:α->α):List α:=match l.getLast? with
 |some y=>l.dropLast++[f y]
 |none=>[]
variable {α:Type}
theorem Zki (l:List α) (y:α) (f:α->α):Zjb (l++[y]) f=l++[f y]:=by simp[Zjb]
def ZSe (Z4:TC) (l:List TC):TC:=l.getLastD Z4
theorem Zxa (l:List α) (y:α) (h:l.length<=1000000):IntKind.wrap .i64 (iN (l++[y]).length-1)=(l.length:Int):=by simp only[iN,Le,Yd,List.length_cons,List.length_nil];rw[wrap_i64 _ (by omega) (by omega)];omega
theorem ZIg {r:R} (l:List r.den) (y:r.den):R.get r (l++[y]) (l.length:Int)=y:=by simp[R.get]
theorem ZF4 (l:List α) (y z:α):setI (l++[y]) (l.length:Int) z=l++[z]:=by simp[setI]
theorem ZF7 (l:List α) (y:α):Ze (l.length:Int) (l++[y]).length=true:=ZF.2 ⟨by omega,by simp;omega⟩
def Zqy (t:Int):Int:=bif t==8 then 2 else bif t==9 then 3 else bif t==10 then 4 else 1
def cycN (c:CORT) (t:Int) (x:TY):TY:=bif t==8 then (0,0,0,0) else bif t==9 then (0,c.1.2.1.2.2.2.2.2.2.2.2.2,0,0) else bif t==10 then (0,0,0,0) else x
def ZVE (c:CORT):Bool:=c.1.2.2.1
def sodC (c:CORT):Bool:=c.1.2.2.2.2.2.2.2.2.2.2.2.2
def ZYK (y:ITMT) (k:Int) (c:CORT):Bool:=y.1==k&&(y.2.2.2.2.1==ZVE c&&y.2.2.2.2.2==sodC c)
def Z2a (y:ITMT):ITMT:=(y.1,y.2.1,y.2.2.1,IntKind.wrap .i64 (y.2.2.2.1+1),y.2.2.2.2)
def ZLF (l:List ITMT) (k:Int) (c:CORT) (n:ITMT):List ITMT:=match l.getLast? with
 |some y=>bif ZYK y k c then Zjb l Z2a else l++[n]
 |none=>l++[n]
def ZEE (l:List ITMT) (c:CORT) (x:TY) (t:Int):List ITMT:=
 bif Zqy t !=1 then ZLF l (Zqy t) c (Zqy t,cycN c t x,0,1,ZVE c,sodC c)
 else bif t==1 then l++[(1,cycN c t x,0,1,ZVE c,sodC c)]
 else bif t==7 then Zjb l (λy=>(y.1,cycN c t x,IntKind.wrap .i64 (y.2.2.1+1),y.2.2.2))
 else Zjb l (λy=>(y.1,cycN c t x,y.2.2.1,IntKind.wrap .i64 (y.2.2.2.1+1),y.2.2.2.2))
def ZTk:TC:=(0,(0,0,0,0,0,0,0,(false,false,false,false,false,false,false),0,0),false,false,false,0,false,false,false,false,false,false,false)
def ZL3:LINT:=(false,false,false,false,false,false,false,false,false)
def rdS (c:CORT) (t d:Int):TY×List Int:=bif t !=3 then (c.2.2.2.1,c.2.2.1) else (Zj0 c.1 c.2.2.2.1 d,c.2.2.1++[(Zj0 c.1 c.2.2.2.1 d).2.2.1])
def finS (c:CORT) (l:LINT) (d:Int):TC×Bool:=
 bif l.2.2.1 then (ZTk,false) else
 bif !Zuy c.2.2.2.2.1 (rdS c c.2.2.2.2.1 d).1 then (ZTk,false) else
 bif (Zi (ZJ c.1 l) c.2.1 (rdS c c.2.2.2.2.1 d).2).2 then (ZTk,false) else (finX (ZJ c.1 l) c.2.1 (rdS c c.2.2.2.2.1 d).2 l,true)
def ZIv (c:CORT) (t d:Int):List Int:=bif t==3 then c.2.2.1++[(ZgR c t d).2.2.1] else c.2.2.1
def evE (ev:List EVTT) (c:CORT) (l:LINT) (d:Int) (cell:Cell) (moved:Bool):List EVTT:=
 let e1:=bif (finS c l d).2 then ev++[ZAy (ZYb c.2.1,c.2.1,ZIv c (Zaw c) d,ZL3,false,false,false,false,0,0) (ZJ c.1 l) l] else ev
 bif l.2.2.1 then (bif ZhX c then ev++[ZAy (6,c.2.1,c.2.2.1,ZL3,false,false,false,false,0,0) c.1 l] else ev)++[ZAy (4,0,[],ZL3,false,false,false,false,0,0) c.1 l]
 else bif moved then e1++[(5,0,[],ZL3,false,false,false,false,cell)] else e1
def evC (cp:List TC) (Z4:TC) (c:CORT) (after:CORT) (l:LINT) (d:Int) (moved:Bool):List TC:=
 let c1:=bif (finS c l d).2 then cp++[(finS c l d).1] else cp
 bif l.2.2.1 then (bif ZhX c then cp++[ZSe Z4 cp] else cp)++[after.1]
 else bif moved then c1++[ZSe Z4 cp] else c1
abbrev STT:=SYST×List PINT×List ITMT×List EVTT×List TC
def nowS (s:SYST) (i:INPT):Int:=bif i.2.2.1 then 10 else Zaw s.1
def ZfJ (b:BRDT) (Z4:TC) (st:STT) (i:INPT):STT:=
 let k:=Zds b st.1 i
 (k.1,st.2.1++[k.2.1],ZEE st.2.2.1 st.1.1 (ZgR st.1.1 (nowS st.1 i) k.2.2.2.1) (nowS st.1 i),
  evE st.2.2.2.1 st.1.1 k.2.2.1 k.2.2.2.1 k.2.2.2.2.1 k.2.2.2.2.2,evC st.2.2.2.2 Z4 st.1.1 k.1.1 k.2.2.1 k.2.2.2.1 k.2.2.2.2.2)
structure RunOk (b:BRDT) (st:STT) (n:Nat):Prop where
 g:smG b.2.1=true
 m:st.1.2.1.length<=100000+2*n
 o:st.1.2.2.2.2.2.length<=n
 k:st.1.1.2.2.1.length<=n
 t:st.2.1.length<=n
 it:st.2.2.1.length<=n
 ev:st.2.2.2.1.length<=2*n
 cp:st.2.2.2.2.length<=2*n
 ne:st.2.2.1=[]->Zaw st.1.1=1
theorem ZUj (c:CORT) (t d:Int) (h:c.2.2.1.length<=1000000):ZeO c t d=true/\ZhW c t d=rdS c t d:=by
 have hms:=mst;have h1:Nat.ble (List.length c.2.2.1) most=true:=Zan (by omega);have h2:∀y:Int,Nat.ble (List.length (c.2.2.1++[y])) most=true:=λy=>Zan (by simp;omega)
 have hv:(ZiM c t d).val=some (rdS c t d):=by unfold ZiM rdS Zj0;simp only[RT.val,h1,h2,List.nil_append,Yf,Ya];cases t !=3<;>rfl
 exact⟨by simp only[ZeO,hv];rfl,by simp only[ZhW,hv,getO]⟩
theorem ZYc (c:CORT) (l:LINT) (d:Int) (h:c.2.2.1.length<=1000000):ZgP c l d=true/\Zil c l d=finS c l d:=by
 have h1:=ZUj c c.2.2.2.2.1 d h;have hv:(ZeD c l d).val=some (finS c l d):=by
  unfold ZeD finS;simp only[RT.val,h1.1,h1.2,Ya];cases l.2.2.1
  ·cases Zuy c.2.2.2.2.1 (rdS c c.2.2.2.2.1 d).1
   ·rfl
   ·cases (Zi (ZJ c.1 l) c.2.1 (rdS c c.2.2.2.2.1 d).2).2<;>rfl
  ·rfl
 exact⟨by simp only[ZgP,hv];rfl,by simp only[Zil,hv,getO]⟩
theorem ZMD (c:CORT) (t d:Int) (h:c.2.2.1.length<=1000000):ZsF c t d=true/\ZFq c t d=ZIv c t d:=by
 have hms:=mst;have h1:Nat.ble (List.length c.2.2.1) most=true:=Zan (by omega);have h2:∀y:Int,Nat.ble (List.length (c.2.2.1++[y])) most=true:=λy=>Zan (by simp;omega)
 have hv:(Zmq c t d).val=some (ZIv c t d):=by unfold Zmq ZIv;simp only[RT.val,h1,h2,List.nil_append,Yf,Ya]
 exact⟨by simp only[ZsF,hv];rfl,by simp only[ZFq,hv,getO]⟩
theorem ZH7 (Z4:TC) (l:List TC) (h:l.length<=1000000):
  (!decide (iN l.length>0)||Ze (IntKind.wrap .i64 (iN l.length-1)) l.length)=true/\R.sel Zr (decide (iN l.length>0)) (R.get Zr l (IntKind.wrap .i64 (iN l.length-1))) Z4=ZSe Z4 l:=by
 rcases Yar l with rfl|⟨l',y,rfl⟩
 ·exact⟨rfl,by rw[R.sel_eq];rfl⟩
 ·simp only[Yas,Yd,List.length_singleton] at h|-;have w:=Zxa l' y (by omega);have d:decide (iN (l'.length+1)>0)=true:=Yz (by simp only[iN,Le];omega);simp only[Yd,List.length_singleton] at w;rw[w,d,R.sel_eq];have:=ZF7 l' y;simp only[Yd,List.length_singleton] at this;rw[this];exact⟨rfl,by simp only[Ya,ZSe];rw[show R.get Zr (l'++[y]) (l'.length:Int)=y from ZIg (r:=Zr) l' y];simp⟩
theorem ZOc (b:BRDT) (l:List INPT) (i:Nat) (r0:RUNT) (s0:SYST) (Z4:TC) (st:STT) (n:Nat) (h:RunOk b st n) (hi:i<l.length) (hl:l.length<=100000) (hn:n<=200000):
  (Ze7 (l,(l.length:Int),(i:Int),b,r0,st.1,s0,Z4,st.2.1,st.2.2.1,st.2.2.2.1,st.2.2.2.2,())).val=
   some (Go1.cont (l,(l.length:Int),((i+1:Nat):Int),b,r0,(ZfJ b Z4 st (R.get Zdd l (i:Int))).1,s0,Z4,(ZfJ b Z4 st (R.get Zdd l (i:Int))).2.1,(ZfJ b Z4 st (R.get Zdd l (i:Int))).2.2.1,
    (ZfJ b Z4 st (R.get Zdd l (i:Int))).2.2.2.1,(ZfJ b Z4 st (R.get Zdd l (i:Int))).2.2.2.2,())):=by
 have hms:=mst;obtain⟨s,tr,it,ev,cp⟩:=st;obtain⟨g,m,o,k,t,hit,hev,hcp,ne⟩:=h;simp only at g m o k t hit hev hcp ne;have d:decide ((i:Int)<(l.length:Int))=true:=Yz (by omega);have hin:Ze (i:Int) l.length=true:=ZF.2 ⟨by omega,by omega⟩;have w:IntKind.wrap .i64 ((i:Int)+1)=((i+1:Nat):Int):=by rw[wrap_i64 _ (by omega) (by omega)];omega
 obtain⟨q,hq⟩:∃q,R.get Zdd l (i:Int)=q:=⟨_,rfl⟩;rw[hq];have hc:=ZMA b s q g (by omega) (by omega) (by omega);have hf:=ZYc s.1 (Zds b s q).2.2.1 (Zds b s q).2.2.2.1 (by omega);have hb:=ZMD s.1 (Zaw s.1) (Zds b s q).2.2.2.1 (by omega);have hlc:=ZH7 Z4 cp (by omega);have htr:∀x:PINT,Nat.ble (tr++[x]).length most=true:=λx=>Zan (by simp;omega)
 have he1:∀x:EVTT,Nat.ble (ev++[x]).length most=true:=λx=>Zan (by simp;omega)
 have he2:∀(c:Bool) (x y:EVTT),Nat.ble ((bif c then ev++[x] else ev)++[y]).length most=true:=λc x y=>Zan (by cases c<;>simp<;>omega)
 have hc1:∀x:TC,Nat.ble (cp++[x]).length most=true:=λx=>Zan (by simp;omega)
 have hc2:∀(c:Bool) (x y:TC),Nat.ble ((bif c then cp++[x] else cp)++[y]).length most=true:=λc x y=>Zan (by cases c<;>simp<;>omega)
 have hg:Nat.ble (List.length s.1.2.2.1) most=true:=Zan (by omega);obtain⟨T,hT⟩:∃T,(bif q.2.2.1 then (10:Int) else Zaw s.1)=T:=⟨_,rfl⟩;have hT':nowS s q=T:=hT;rcases Yar it with rfl|⟨it',y,rfl⟩
 ·have hTT:T=1\/T=10:=by
   rw[<-hT,ne rfl];cases q.2.2.1
   ·exact .inl rfl
   ·exact .inr rfl
  have w0:IntKind.wrap .i64 (iN ([]:List ITMT).length-1)= -1:=by decide
  have w1:decide ((-1:Int)>=0)=false:=by decide
  have w2:Ze (-1) ([]:List ITMT).length=false:=by decide
  have hi1:∀x:ITMT,Nat.ble [x].length most=true:=λx=>Zan (by simp;omega)
  unfold Ze7;rcases hTT with rfl|rfl
  ·have e1:((1:Int)==1)=true:=rfl;have e8:((1:Int)==8)=false:=rfl;have e9:((1:Int)==9)=false:=rfl;have e10:((1:Int)==10)=false:=rfl;have e7:((1:Int)==7)=false:=rfl;have n1:((1:Int) !=1)=false:=rfl;simp only[RT.val,d,hin,w,hq,hT,hc.1,hc.2,hf.1,hf.2,hb.1,hb.2,hlc.1,hlc.2,htr,hi1,he1,he2,hc1,hc2,hg,w0,w1,w2,e1,e8,e9,e10,e7,n1,List.nil_append,ZcN,ZbT,Yf,Yt,Yg,Yj,YF,Ym,Yam,Y1,YU,Y5,Ya,Yc];unfold ZfJ;rw[hT'];simp only[ZEE,Zqy,cycN,e1,e8,e9,e10,e7,n1,Ya,Yc,List.nil_append];rfl
  ·have e1:((10:Int)==1)=false:=rfl;have e8:((10:Int)==8)=false:=rfl;have e9:((10:Int)==9)=false:=rfl;have e10:((10:Int)==10)=true:=rfl;have e7:((10:Int)==7)=false:=rfl;have n1:((4:Int) !=1)=true:=rfl;simp only[RT.val,d,hin,w,hq,hT,hc.1,hc.2,hf.1,hf.2,hb.1,hb.2,hlc.1,hlc.2,htr,hi1,he1,he2,hc1,hc2,hg,w0,w1,w2,e1,e8,e9,e10,e7,n1,List.nil_append,ZcN,ZbT,Yf,Yt,Yg,Yj,YF,Ym,Yam,Y1,YU,Y5,Ya,Yc];unfold ZfJ;rw[hT'];simp only[ZEE,Zqy,cycN,ZLF,List.getLast?_nil,e1,e8,e9,e10,e7,n1,Ya,Yc,List.nil_append];rfl
 ·simp only[Yas] at hit|-;have hlen:it'.length<=1000000:=by simp at hit;omega
  have w0:=Zxa it' y hlen;have w1:decide ((it'.length:Int)>=0)=true:=Yz (by omega);have w2:=λz:ITMT=>ZF7 it' z
  have w3:=λz:ITMT=>ZIg (r:=ZI5) it' z
  have w4:=λz:ITMT=>ZF4 it' y z
  have w5:=λz z2:ITMT=>ZF4 it' z z2
  have hi1:∀x:ITMT,Nat.ble (it'++[y]++[x]).length most=true:=λx=>Zan (by simp at hit|-;omega)
  have hj:∀f:ITMT->ITMT,Zjb (it'++[y]) f=it'++[f y]:=Zki it' y;unfold Ze7;simp only[RT.val,d,hin,w,hq,hT,hc.1,hc.2,hf.1,hf.2,hb.1,hb.2,hlc.1,hlc.2,htr,hi1,he1,he2,hc1,hc2,hg,w0,w1,w2,w3,w4,w5,List.nil_append,ZcN,ZbT,Yf,Yt,Yg,Yj,YF,Ym,Yam,Y1,YU,Y5,Ya,Yc];unfold ZfJ;rw[hT'];simp only[ZEE,Zqy,cycN,ZLF,List.getLast?_concat,hj,ZYK,Z2a];cases T==8<;>cases T==9<;>cases T==10<;>rfl
theorem ZLT (c:CORT) (l:LINT) (d:Int):(ZcF c l d).2.2.1.length<=c.2.2.1.length+1:=by
 have he:∀(c:TC) (s:Int) (g:List Int) (h:Bool) (l:LINT),(endX c s g h l).2.2.1.length<=g.length:=by
  intro c s g h l;unfold endX;cases (Zi c s g).2
  ·exact Ys _
  ·exact Ye _
 unfold ZcF;dsimp only;cases l.2.2.1
 ·cases ZaZ c.2.2.2.2.1==1
  ·cases ZaZ c.2.2.2.2.1==2||ZaZ c.2.2.2.2.1==7
   ·cases ZaZ c.2.2.2.2.1==8
    ·cases ZaZ c.2.2.2.2.1==9
     ·cases ZaZ c.2.2.2.2.1==3
      ·cases decide (ZaZ c.2.2.2.2.1<c.2.2.2.1.2.2.2)&& !(ZaZ c.2.2.2.2.1==6)
       ·exact YS (he _ _ _ _ _) (YaK _)
       ·exact YaK _
      ·cases le3 (Zj0 (ZJ c.1 l) c.2.2.2.1 d).2.2.2
       ·simp only[Ya,Yc,Yd,List.length_singleton];omega
       ·exact YS (he _ _ _ _ _) (by simp)
     ·cases Zm7 (ZJ c.1 l) l==0
      ·exact Ys _
      ·exact YaK _
    ·exact YaK _
   ·cases l.1|| !Zfk c.2.2.2.1.1<;>exact YaK _
  ·exact YaK _
 ·exact Ys _
theorem ZLS (b:BRDT) (s:SYST) (i:INPT):(Zds b s i).1.1=ZcF s.1 (ZgC b (Zam b s i) i) (busS b (Zam b s i) i).2:=by rw[(Zz9 b s i).1];show ZcF (busS b (Zam b s i) i).1.1 _ _=_;rw[(ZwP b (Zam b s i) i).1];rfl
theorem ZLm (l:List α) (f:α->α):(Zjb l f).length=l.length:=by
 rcases Yar l with rfl|⟨l',y,rfl⟩
 ·rfl
 ·rw[Yas,Zki];simp
theorem ZSl (l:List ITMT) (k:Int) (c:CORT) (n:ITMT):(ZLF l k c n).length<=l.length+1/\ZLF l k c n≠[]:=by
 unfold ZLF;rcases Yar l with rfl|⟨l',y,rfl⟩
 ·exact⟨by simp,by simp⟩
 ·rw[Yas,List.getLast?_concat];dsimp only;cases ZYK y k c
  ·exact⟨by simp,by simp⟩
  ·simp only[Ya];rw[Zki];exact⟨by simp,by simp⟩
theorem ZSm (l:List ITMT) (c:CORT) (x:TY) (t:Int) (h:l=[]->t=1\/t=10):(ZEE l c x t).length<=l.length+1/\ZEE l c x t≠[]:=by
 have hj:=ZSl l (Zqy t) c (Zqy t,cycN c t x,0,1,ZVE c,sodC c);have ho:∀f:ITMT->ITMT,l≠[]->(Zjb l f).length<=l.length+1/\Zjb l f≠[]:=λf hl=>by have:=ZLm l f;refine⟨by omega,λe=>hl ?_⟩;rw[e] at this;exact YX.1 this.symm
 unfold ZEE;cases hk:Zqy t !=1
 ·cases h1:t==1
  ·have hl:l≠[]:=λe=>by
    rcases h e with rfl|rfl
    ·simp at h1
    ·simp[Zqy] at hk
   cases t==7
   ·exact ho _ hl
   ·exact ho _ hl
  ·exact⟨by simp,by simp⟩
 ·exact hj
theorem Z0g (s:SYST) (i:INPT) (h:Zaw s.1=1):nowS s i=1\/nowS s i=10:=by
 unfold nowS;rw[h];cases i.2.2.1
 ·exact .inl rfl
 ·exact .inr rfl
theorem Z0N (ev:List EVTT) (c:CORT) (l:LINT) (d:Int) (cell:Cell) (moved:Bool):(evE ev c l d cell moved).length<=ev.length+2:=by
 unfold evE;dsimp only;cases l.2.2.1
 ·cases (finS c l d).2<;>cases moved<;>simp
 ·cases ZhX c<;>simp
theorem Z0O (cp:List TC) (Z4:TC) (c after:CORT) (l:LINT) (d:Int) (moved:Bool):(evC cp Z4 c after l d moved).length<=cp.length+2:=by
 unfold evC;dsimp only;cases l.2.2.1
 ·cases (finS c l d).2<;>cases moved<;>simp
 ·cases ZhX c<;>simp
theorem ZT3 (b:BRDT) (Z4:TC) (st:STT) (i:INPT) (n:Nat) (h:RunOk b st n):RunOk b (ZfJ b Z4 st i) (n+1):=by
 have hc:=Zz9 b st.1 i;have hi:=ZSm st.2.2.1 st.1.1 (ZgR st.1.1 (nowS st.1 i) (Zds b st.1 i).2.2.2.1) (nowS st.1 i) (λe=>Z0g st.1 i (h.ne e));refine⟨h.g,?_,?_,?_,?_,?_,?_,?_,?_⟩
 ·have:=h.m;show (Zds b st.1 i).1.2.1.length<=_;omega
 ·have:=h.o;show (Zds b st.1 i).1.2.2.2.2.2.length<=_;omega
 ·have:=h.k;show (Zds b st.1 i).1.1.2.2.1.length<=_;rw[ZLS];have:=ZLT st.1.1 (ZgC b (Zam b st.1 i) i) (busS b (Zam b st.1 i) i).2;omega
 ·have:=h.t;show (st.2.1++[_]).length<=_;simp;omega
 ·have:=h.it;exact YS hi.1 (by omega)
 ·have:=h.ev;exact YS (Z0N _ _ _ _ _ _) (by omega)
 ·have:=h.cp;exact YS (Z0O _ _ _ _ _ _ _) (by omega)
 ·intro e;exact absurd e hi.2
def Zcs (b:BRDT) (Z4:TC) (st:STT) (l:List INPT):STT:=l.foldl (ZfJ b Z4) st
theorem ZwD (b:BRDT) (Z4:TC):∀(l:List INPT) (st:STT) (n:Nat),RunOk b st n->RunOk b (Zcs b Z4 st l) (n+l.length)
 |[],st,n,h=>h
 |i::l,st,n,h=>by have:=ZwD b Z4 l (ZfJ b Z4 st i) (n+1) (ZT3 b Z4 st i n h);rw[show n+(i::l).length=n+1+l.length by simp;omega];exact this
theorem ZNQ (l:List α) (d:α) (i:Nat) (h:i<l.length):l.take (i+1)=l.take i++[l.getD i d]:=by rw[Yat,Yq,Yi h];rfl
theorem ZTZ (b:BRDT) (l:List INPT) (r0:RUNT) (s0:SYST) (Z4:TC) (st:STT) (h:RunOk b st 0) (hl:l.length<=70000):
  runF false Ze7 (λ_=>10000000000000) (l,(l.length:Int),0,b,r0,st.1,s0,Z4,st.2.1,st.2.2.1,st.2.2.2.1,st.2.2.2.2,())=
   some (false,(l,(l.length:Int),(l.length:Int),b,r0,(Zcs b Z4 st l).1,s0,Z4,(Zcs b Z4 st l).2.1,(Zcs b Z4 st l).2.2.1,(Zcs b Z4 st l).2.2.2.1,(Zcs b Z4 st l).2.2.2.2,())):=by
 obtain⟨r,hr,h1⟩:=ZC (fl:=false) (t:=Ze7) (fuel:=λ_=>10000000000000)
  (λa=>∃i:Nat,i<=l.length/\a=(l,(l.length:Int),(i:Int),b,r0,(Zcs b Z4 st (l.take i)).1,s0,Z4,(Zcs b Z4 st (l.take i)).2.1,(Zcs b Z4 st (l.take i)).2.2.1,(Zcs b Z4 st (l.take i)).2.2.2.1,(Zcs b Z4 st (l.take i)).2.2.2.2,()))
  (λa=>Int.toNat (a.2.1-a.2.2.1)) (λr=>r=(false,(l,(l.length:Int),(l.length:Int),b,r0,(Zcs b Z4 st l).1,s0,Z4,(Zcs b Z4 st l).2.1,(Zcs b Z4 st l).2.2.1,(Zcs b Z4 st l).2.2.2.1,(Zcs b Z4 st l).2.2.2.2,())))
  (by
   rintro a ⟨i,hi,rfl⟩;by_cases hlt:i<l.length
   ·left;have hk:=ZwD b Z4 (l.take i) st 0 h;have hv:=ZOc b l i r0 s0 Z4 (Zcs b Z4 st (l.take i)) _ hk hlt (by omega) (by simp;omega);refine⟨_,hv,⟨i+1,hlt,?_⟩,by simp only;omega⟩;have e:Zcs b Z4 st (l.take (i+1))=ZfJ b Z4 (Zcs b Z4 st (l.take i)) (R.get Zdd l (i:Int)):=by rw[ZNQ l Zdd.Df i hlt];simp only[Zcs,YaL,List.foldl_cons,List.foldl_nil];rfl
    rw[e]
   ·right;left;have e:i=l.length:=by omega
    subst e;have d:decide ((l.length:Int)<(l.length:Int))=false:=Y0 (by omega);rw[Yah]
    exact⟨_,by simp only[Ze7,RT.val,d,Yc],rfl⟩)
  (l,(l.length:Int),0,b,r0,st.1,s0,Z4,st.2.1,st.2.2.1,st.2.2.2.1,st.2.2.2.2,()) ⟨0,Ys _,rfl⟩ (by simp only;omega)
 rw[h1] at hr;exact hr
def Zjo (b:BRDT):STT:=((wNew b).1,[],[],[],[])
def Zdk (b:BRDT):TC:=(wNew b).1.1.1
def ZAs:SYST:=((ZTk,0,[],(0,0,0,0),0,false),[],(0,false,false,false,false,0,0,false,false,false,false,false,0,0,0,0,0,0,0,false),(0,0,0),0,[])
theorem ZMe (b:BRDT) (hg:smG b.2.1=true) (hm:smC b.2.2.2.2.2.2=true):Zsu b=true:=by
 unfold Zsu Zss;simp only[RT.val,hg,hm,Yf,Ya];cases b.1 !=1&&b.1 !=2
 ·cases Zfa b.2.1 !=0
  ·cases decide (b.2.2.1<0)||(decide (b.2.2.1>100)|| !vldB b.2.2.2.2.2.2)<;>rfl
  ·rfl
 ·rfl
def newS (b:BRDT):SYST:=((((newX b.1).1.1,(0,0,0,0,0,0,0,(false,false,false,false,false,false,false),0,0),false,false,false,(newX b.1).1.2.2.2.2.2.1,false,false,false,false,false,false,false),0,[],(1,0,0,4),1,false),
 normX b.2.2.2.2.2.2,(0,false,false,false,false,0,0,false,false,false,false,false,0,0,0,0,7,0,0,false),(0,0,0),0,[])
theorem ZMo (b:BRDT) (hg:smG b.2.1=true) (hm:b.2.2.2.2.2.2.length<=100000):ZTn b=true/\(wNew b).2=Zhv b/\((wNew b).2=0->RunOk b (Zjo b) 0/\(wNew b).1.2.1=normX b.2.2.2.2.2.2):=by
 have hc:=smCb (l:=b.2.2.2.2.2.2) (by omega);have hv:(ZMp b).val=some (bif Zhv b !=0 then (ZAs,Zhv b) else ((newS b),0)):=by unfold ZMp;simp only[RT.val,ZMe b hg hc,hc,Ya];cases Zhv b !=0<;>rfl
 refine⟨by simp only[ZTn,hv];rfl,?_,?_⟩
 ·simp only[wNew,hv,getO];cases hx:Zhv b !=0
  ·simp at hx;exact hx.symm
  ·rfl
 ·intro h0;have hx:(Zhv b !=0)=false:=by
   cases hx:Zhv b !=0
   ·rfl
   ·simp only[wNew,hv,getO,hx,Ya] at h0;rw[h0] at hx;simp at hx
  have e:wNew b=((newS b),0):=by simp only[wNew,hv,getO,hx,Yc]
  have hn:=Zd4 b.2.2.2.2.2.2;unfold Zjo;rw[e];exact⟨⟨hg,by show (normX b.2.2.2.2.2.2).length<=_;omega,Ye _,Ye _,Ye _,Ye _,Ye _,Ye _,λ_=>rfl⟩,rfl⟩
def endS (Z4:TC) (st:STT):RUNT:=
 (st.2.1,st.2.2.1,bif ZhX st.1.1 then st.2.2.2.1++[(7,st.1.1.2.1,st.1.1.2.2.1,ZL3,false,false,false,false,0,0)] else st.2.2.2.1,bif ZhX st.1.1 then st.2.2.2.2++[ZSe Z4 st.2.2.2.2] else st.2.2.2.2,st.1)
def ZBc (b:BRDT) (l:List INPT):RUNT×Int:=bif (wNew b).2 !=0 then (([],[],[],[],ZAs),(wNew b).2) else (endS (Zdk b) (Zcs b (Zdk b) (Zjo b) l),0)
theorem ZX8 (b:BRDT) (l:List Int) (hg:smG b.2.1=true) (hm:b.2.2.2.2.2.2.length<=100000) (hl:l.length<=4000):ZTm b l=true/\wRun b l=ZBc b (Za7 l):=by
 have hms:=mst;have hd:=ZqJ l hl;have hn:=ZMo b hg hm;have hv:(ZMj b l).val=some (ZBc b (Za7 l)):=by
  unfold ZMj ZBc;cases hx:(wNew b).2 !=0
  ·have h0:(wNew b).2=0:=by simpa using hx
   have hi:=(hn.2.2 h0).1;have hf:=ZwD b (Zdk b) (Za7 l) (Zjo b) 0 hi;have hr:=ZTZ b (Za7 l) ([],[],[],[],ZAs) ZAs (Zdk b) (Zjo b) hi (by omega);have hr':runF false Ze7 (λ_=>10000000000000) (Za7 l,iN (Za7 l).length,0,b,([],[],[],[],((0,(0,0,0,0,0,0,0,(false,false,false,false,false,false,false),0,0),false,false,false,0,false,false,false,false,false,false,false),0,[],(0,0,0,0),0,false),[],(0,false,false,false,false,0,0,false,false,false,false,false,0,0,0,0,0,0,0,false),(0,0,0),0,[]),(wNew b).1,(((0,(0,0,0,0,0,0,0,(false,false,false,false,false,false,false),0,0),false,false,false,0,false,false,false,false,false,false,false),0,[],(0,0,0,0),0,false),[],(0,false,false,false,false,0,0,false,false,false,false,false,0,0,0,0,0,0,0,false),(0,0,0),0,[]),(wNew b).1.1.1,[],[],[],[],())=some (false,(Za7 l,((Za7 l).length:Int),((Za7 l).length:Int),b,([],[],[],[],ZAs),(Zcs b (Zdk b) (Zjo b) (Za7 l)).1,ZAs,Zdk b,(Zcs b (Zdk b) (Zjo b) (Za7 l)).2.1,(Zcs b (Zdk b) (Zjo b) (Za7 l)).2.2.1,(Zcs b (Zdk b) (Zjo b) (Za7 l)).2.2.2.1,(Zcs b (Zdk b) (Zjo b) (Za7 l)).2.2.2.2,())):=hr;simp only[RT.val,hn.1,hd.1,hr',hx,okB,getO,Ya,Yc];obtain⟨st,hst⟩:∃st,Zcs b (Zdk b) (Zjo b) (Za7 l)=st:=⟨_,rfl⟩;rw[hst] at hf|-;have hk:=hf.k;have he:=hf.ev;have hc:=hf.cp;have hdl:=hd.2;have hlc:=ZH7 (Zdk b) st.2.2.2.2 (by omega);have b1:Nat.ble (List.length st.1.1.2.2.1) most=true:=Zan (by omega);have b2:∀x:EVTT,Nat.ble (List.length (st.2.2.2.1++[x])) most=true:=λx=>Zan (by simp;omega)
   have b3:∀x:TC,Nat.ble (List.length (st.2.2.2.2++[x])) most=true:=λx=>Zan (by simp;omega)
   simp only[hlc.1,hlc.2,b1,b2,b3,List.nil_append,Yf,Yg,Yj,Ya];unfold endS;cases ZhX st.1.1<;>rfl
  ·simp only[RT.val,hn.1,hx,Ya];rfl
 exact⟨by simp only[ZTm,hv];rfl,by simp only[wRun,hv,getO]⟩
end
end Go.Proofs.YtpnjbfjomebppaaGreat
open Go.Proofs.Tryz (prog)
open Go Go.S3 Go.Proofs
namespace Go.Proofs.YtpnjbfjomebppaaGreat
noncomputable section
abbrev ZwU:List Sh:=[Sh.agg Zr,Sh.agg Zau]
def ZEX (c:TC) (e:EVTT):RT TC:=
 .br (bif e.1==1 then e.1==1 else bif e.1==2 then e.1==2 else e.1==3) (.Lf (finX ((Zo c e.2.1).1,(Zo c e.2.1).2.1,(Zo c e.2.1).2.2.1,(Zo c e.2.1).2.2.2.1,(Zo c e.2.1).2.2.2.2.1,(Zo c e.2.1).2.2.2.2.2.1,e.2.2.2.2.2.1,e.2.2.2.2.1,e.2.2.2.2.2.2.2.1,e.2.2.2.2.2.2.1,(Zo c e.2.1).2.2.2.2.2.2.2.2.2.2) e.2.1 e.2.2.1 e.2.2.2.1)) (.br (e.1==4) (.Lf (((ZI c).1,((ZI c).2.1.1,(ZI c).2.1.2.1,(ZI c).2.1.2.2.1,(ZI c).2.1.2.2.2.1,(ZI c).2.1.2.2.2.2.1,(ZI c).2.1.2.2.2.2.2.1,(ZI c).2.1.2.2.2.2.2.2.1,(ZI c).2.1.2.2.2.2.2.2.2.1,(ZI c).2.1.2.2.2.2.2.2.2.2.1,0),false,false,false,(ZI c).2.2.2.2.2.1,false,false,false,false,false,false,false))) (.Lf (c)))
def ZIC (c:TC) (e:EVTT):TC:=(ZEX c e).val
def ZEY:En:=Zg ZwU ZQe (λ_=>none) (λa=>ZIC a.1 a.2)
theorem Zqi:Za prog 28 ZEY:=
 pureQ 34359738527 [(80,ZHl),(81,Zja),(85,Z1Z)] [] ZwU ZQe ⟨ZKq,Zh2,ZZX,Tv⟩ Tryz.func28 Tryz.call28 trivial (t:=λa=>ZEX a.1 a.2)
def Zai:En:=.tree (ZM (envX prog [] [] 7 8) Tryz.f162)
theorem ZaD:Za prog 162 Zai:=Zad trivial Tryz.func162 rfl (by kernel_rfl) Tryz.call162 trivial
def ZAH (c:TC) (e:EVTT):RT TC:=
 .br (e.1==4) (.Lf (((ZI c).1,((ZI c).2.1.1,(ZI c).2.1.2.1,(ZI c).2.1.2.2.1,(ZI c).2.1.2.2.2.1,(ZI c).2.1.2.2.2.2.1,(ZI c).2.1.2.2.2.2.2.1,(ZI c).2.1.2.2.2.2.2.2.1,(ZI c).2.1.2.2.2.2.2.2.2.1,(ZI c).2.1.2.2.2.2.2.2.2.2.1,0),false,false,false,(ZI c).2.2.2.2.2.1,false,false,false,false,false,false,false))) (.br (!(e.1==1||(e.1==2||e.1==3))) (.Lf (c)) (.Lf (finX ((Zo c e.2.1).1,(Zo c e.2.1).2.1,(Zo c e.2.1).2.2.1,(Zo c e.2.1).2.2.2.1,(Zo c e.2.1).2.2.2.2.1,(Zo c e.2.1).2.2.2.2.2.1,e.2.2.2.2.2.1,e.2.2.2.2.1,e.2.2.2.2.2.2.2.1,e.2.2.2.2.2.2.1,(Zo c e.2.1).2.2.2.2.2.2.2.2.2.2) e.2.1 e.2.2.1 e.2.2.2.1)))
def ZMJ (c:TC) (e:EVTT):TC:=(ZAH c e).val
def ZYg:En:=Zg ZwU ZQe (λ_=>none) (λa=>ZMJ a.1 a.2)
theorem ZMI:Za prog 92 ZYg:=
 pureQ 2111 [(96,Zm5),(162,Zai),(163,ZiV),(164,ZUF)] [] ZwU ZQe ⟨ZiL,ZaD,Zg8,ZCx,Tv⟩ Tryz.func92 Tryz.call92 trivial (t:=λa=>ZAH a.1 a.2)
abbrev ZgN:Rs:=Rs.one (So (R.sl (RY)))
def ZLZ:LS:={n:=67,Sl:=[(2,.fix (A.loc 0 0)),(3,.fix (A.loc 1 0)),(5,.tip 0),(23,.code (So (R.sl Ka))),(24,.code (So Kc)),(25,.code (So Kc))],Bx:=[[.many Zr],[.many Zau]],Sg:=[⟨(RY),41,true⟩]}
def Zbu (a:List Int×Int×Int×TC×EVTT×List TY×PUnit):RT (Option (Go1 (List Int×Int×Int×TC×EVTT×List TY×PUnit))):=
 let x1:=decide (0<=0)&&decide (0<=a.2.2.1)&&(decide (a.2.2.1=0)||decide (a.2.2.1<=iN (Le a.2.2.2.2.1.2.2.1)))
 let x2:=Zi a.2.2.2.1 a.2.2.2.2.1.2.1 (subL a.2.2.2.2.1.2.2.1 0 a.2.2.1)
 let x3:= !x2.2
 let x4:=x2.1
 let x5:=x4.1
 let x6:=x4.2
 let x7:=x6.2
 let x8:List TY:=a.2.2.2.2.2.1++[(x5,x6.1,bif Zcz x5 then R.get Ka a.1 a.2.2.1 else x7.1,bif x5==1||x5==8 then ZeQ a.2.2.2.1.1 (R.get Ka a.1 a.2.2.1) else x7.2)]
 .br (decide (a.2.2.1<a.2.1)) (.br (!Ze a.2.2.1 (Le a.1)||(!x1||(x3||Nat.ble (Le x8) most))) (.br (!Ze a.2.2.1 (Le a.1)||x1) (.br (Ze a.2.2.1 (Le a.1)) (.br (x3) (Ls (Go1.brk (a.1,a.2.1,a.2.2.1,a.2.2.2.1,a.2.2.2.2.1,a.2.2.2.2.2.1,PUnit.unit))) (Ls (Go1.cont (a.1,a.2.1,i64.wrap (a.2.2.1+1),a.2.2.2.1,a.2.2.2.2.1,x8,PUnit.unit)))) Ln) Ln) Ln) (Ls (Go1.brk (a.1,a.2.1,a.2.2.1,a.2.2.2.1,a.2.2.2.2.1,a.2.2.2.2.2.1,PUnit.unit)))
def Zsk:Ora:=ZaB true ZLZ Zbu (λa=>10000000000000)
theorem ZAh:Zal (envX prog [(81,Zja),(82,ZQK),(83,Zu1),(84,Zvl)] [] 5119 8) (.block 1 (.loop (ZQ Tryz.f27.body 1))) Zsk:=
 loopP ⟨Zh2,ZHq,ZrQ,ZrS,Tv⟩
def ZfE (c:TC) (e:EVTT):RT (Option (List TY)):=
 let x1:List Int×Int×Int×TC×EVTT×List TY×PUnit:=(e.2.2.1,iN (Le e.2.2.1),0,Zo c e.2.1,e,[],())
 let x2:=runF true Zbu (λa=>10000000000000) x1
 let x3:=getO (false,x1) x2
 .br (bif e.1==1 then e.1==1 else bif e.1==2 then e.1==2 else bif e.1==3 then e.1==3 else bif e.1==6 then e.1==6 else e.1==7) (.br (okB x2) (.br x3.1 Ln (Ls x3.2.2.2.2.2.2.1)) Ln) (Ls ([]))
def Zqh (c:TC) (e:EVTT):List TY:=getO ZgN.Df (ZfE c e).val
def ZjG (c:TC) (e:EVTT):Bool:=okB (ZfE c e).val
def ZV9:En:=Zg ZwU ZgN (λa=>some (ZjG a.1 a.2)) (λa=>Zqh a.1 a.2)
theorem Zsj:Za prog 27 ZV9:=
 pureP 5119 [(81,Zja),(82,ZQK),(83,Zu1),(84,Zvl)] [(1,Zsk)] ZwU ZgN ⟨Zh2,ZHq,ZrQ,ZrS,Tv⟩ Tryz.func27 Tryz.call27 ⟨ZAh,Tv⟩ (t:=λa=>ZfE a.1 a.2)
def ZIP:LS:={n:=73,Sl:=[(2,.fix (A.loc 0 0)),(3,.fix (A.loc 1 0)),(4,.code (So (R.sl (RY)))),(5,.tip 0),(28,.code (So (R.sl Ka))),(29,.code (So Kc)),(30,.code (So Kc))],Bx:=[[.many Zr],[.many Zau],[.code (.int i64),.code (.int i64),.code (.sl Ka),.code .bool,.code .bool,.code .bool,.code .bool,.code .bool,.code .bool,.code .bool,.code .bool,.code .bool,.code .bool,.code .bool,.code .bool,.code .bool,.code (.int u16),.code (.int u8)]],Sg:=[⟨(RY),41,true⟩]}
def ZcK (a:List TY×List Int×Int×Int×TC×EVTT×Int×Int×List Int×Bool×Bool×Bool×Bool×Bool×Bool×Bool×Bool×Bool×Bool×Bool×Bool×Bool×Int×Int×List TY×PUnit):RT (Option (Go1 (List TY×List Int×Int×Int×TC×EVTT×Int×Int×List Int×Bool×Bool×Bool×Bool×Bool×Bool×Bool×Bool×Bool×Bool×Bool×Bool×Bool×Int×Int×List TY×PUnit))):=
 let x1:=decide (0<=0)&&decide (0<=a.2.2.2.1)&&(decide (a.2.2.2.1=0)||decide (a.2.2.2.1<=iN (Le a.2.2.2.2.2.1.2.2.1)))
 let x2:=Zi a.2.2.2.2.1 a.2.2.2.2.2.1.2.1 (subL a.2.2.2.2.2.1.2.2.1 0 a.2.2.2.1)
 let x3:= !x2.2
 let x4:=a.2.2.2.2.2.2.2.2.2.2.2.2.2
 let x5:=x4.2
 let x6:=x5.2
 let x7:=x6.2
 let x8:=x7.2
 let x9:=x8.2
 let x10:=x9.2
 let x11:=x10.2
 let x12:=x11.2
 let x13:=x12.2
 let x14:=x13.2
 let x15:=x14.2.1
 let x16:=x2.1
 let x17:=x16.1
 let x18:=x16.2
 let x19:=x18.2
 let x20:List TY:=x15++[(x17,x18.1,bif Zcz x17 then R.get Ka a.2.1 a.2.2.2.1 else x19.1,bif x17==1||x17==8 then ZeQ a.2.2.2.2.1.1 (R.get Ka a.2.1 a.2.2.2.1) else x19.2)]
 let x21:=a.2.2.2.2.2.2.2.2.2.2.2.2.1
 let x22:=x4.1
 let x23:=x5.1
 let x24:=x6.1
 let x25:=x7.1
 let x26:=x8.1
 let x27:=x9.1
 let x28:=x10.1
 let x29:=x11.1
 let x30:=x12.1
 let x31:=x13.1
 let x32:=x14.1
 let x33:List Int×Int×Int×TC×EVTT×Int×Int×List Int×Bool×Bool×Bool×Bool×Bool×Bool×Bool×Bool×Bool×Bool×Bool×Bool×Bool×Int×Int×List TY×PUnit:=(a.2.1,a.2.2.1,a.2.2.2.1,a.2.2.2.2.1,a.2.2.2.2.2.1,a.2.2.2.2.2.2.1,a.2.2.2.2.2.2.2.1,a.2.2.2.2.2.2.2.2.1,a.2.2.2.2.2.2.2.2.2.1,a.2.2.2.2.2.2.2.2.2.2.1,a.2.2.2.2.2.2.2.2.2.2.2.1,x21,x22,x23,x24,x25,x26,x27,x28,x29,x30,x31,x32,x15,PUnit.unit)
 .br (decide (a.2.2.2.1<a.2.2.1)) (.br (!Ze a.2.2.2.1 (Le a.2.1)||(!x1||(x3||Nat.ble (Le x20) most))) (.br (!Ze a.2.2.2.1 (Le a.2.1)||x1) (.br (Ze a.2.2.2.1 (Le a.2.1)) (.br (x3) (Ls (Go1.ret (x15,x33))) (Ls (Go1.cont (a.1,a.2.1,a.2.2.1,i64.wrap (a.2.2.2.1+1),a.2.2.2.2.1,a.2.2.2.2.2.1,a.2.2.2.2.2.2.1,a.2.2.2.2.2.2.2.1,a.2.2.2.2.2.2.2.2.1,a.2.2.2.2.2.2.2.2.2.1,a.2.2.2.2.2.2.2.2.2.2.1,a.2.2.2.2.2.2.2.2.2.2.2.1,x21,x22,x23,x24,x25,x26,x27,x28,x29,x30,x31,x32,x20,PUnit.unit)))) Ln) Ln) Ln) (Ls (Go1.brk (a.1,x33)))
def ZqL:Ora:=ZaB true ZIP ZcK (λa=>10000000000000)
theorem Zxm:Zal (envX prog [(162,Zai),(163,ZiV),(166,ZrB),(167,ZhV),(168,ZnU)] [] 1023 8) (.block 0 (.loop (ZQ Tryz.f94.body 0))) ZqL:=
 loopP ⟨ZaD,Zg8,ZiQ,ZeN,ZiS,Tv⟩
def Zin (c:TC) (e:EVTT):RT (Option (List TY)):=
 let x1:List TY×List Int×Int×Int×TC×EVTT×Int×Int×List Int×Bool×Bool×Bool×Bool×Bool×Bool×Bool×Bool×Bool×Bool×Bool×Bool×Bool×Int×Int×List TY×PUnit:=([],e.2.2.1,iN (Le e.2.2.1),0,Zo c e.2.1,e,e.1,e.2.1,e.2.2.1,e.2.2.2.1.1,e.2.2.2.1.2.1,e.2.2.2.1.2.2.1,e.2.2.2.1.2.2.2.1,e.2.2.2.1.2.2.2.2.1,e.2.2.2.1.2.2.2.2.2.1,e.2.2.2.1.2.2.2.2.2.2.1,e.2.2.2.1.2.2.2.2.2.2.2.1,e.2.2.2.1.2.2.2.2.2.2.2.2,e.2.2.2.2.1,e.2.2.2.2.2.1,e.2.2.2.2.2.2.1,e.2.2.2.2.2.2.2.1,e.2.2.2.2.2.2.2.2.1,e.2.2.2.2.2.2.2.2.2,[],())
 let x2:=runF true ZcK (λa=>10000000000000) x1
 let x3:=getO (false,x1) x2
 let x4:=x3.2
 .br (!(e.1==1||(e.1==2||e.1==3))&&(e.1 !=6&&e.1 !=7)) (Ls ([])) (.br (okB x2) (.br x3.1 (Ls x4.1) (Ls x4.2.2.2.2.2.2.2.2.2.2.2.2.2.2.2.2.2.2.2.2.2.2.2.2.1)) Ln)
def ZAE (c:TC) (e:EVTT):List TY:=getO ZgN.Df (Zin c e).val
def ZsB (c:TC) (e:EVTT):Bool:=okB (Zin c e).val
def ZTt:En:=Zg ZwU ZgN (λa=>some (ZsB a.1 a.2)) (λa=>ZAE a.1 a.2)
theorem ZIO:Za prog 94 ZTt:=
 pureP 1023 [(162,Zai),(163,ZiV),(166,ZrB),(167,ZhV),(168,ZnU)] [(0,ZqL)] ZwU ZgN ⟨ZaD,Zg8,ZiQ,ZeN,ZiS,Tv⟩ Tryz.func94 Tryz.call94 ⟨Zxm,Tv⟩ (t:=λa=>Zin a.1 a.2)
abbrev Zqb:List Sh:=[Sh.agg Zr,So (R.sl Zau)]
abbrev ZjE:Rs:=Rs.one (So (R.sl Zr))
def ZLW:LS:={n:=23,Sl:=[(2,.fix (A.loc 0 0)),(5,.tip 0),(8,.code (So (R.sl Zau))),(9,.code (So Kc)),(10,.code (So Kc))],Bx:=[[.many Zr]],Sg:=[⟨Zr,38,true⟩]}
def Zhp (a:List EVTT×Int×Int×TC×List TC×PUnit):RT (Option (Go1 (List EVTT×Int×Int×TC×List TC×PUnit))):=
 let x1:=ZIC a.2.2.2.1 (R.get Zau a.1 a.2.2.1)
 let x2:List TC:=a.2.2.2.2.1++[x1]
 .br (decide (a.2.2.1<a.2.1)) (.br (!Ze a.2.2.1 (Le a.1)||Nat.ble (Le x2) most) (.br (Ze a.2.2.1 (Le a.1)) (Ls (Go1.cont (a.1,a.2.1,i64.wrap (a.2.2.1+1),x1,x2,PUnit.unit))) Ln) Ln) (Ls (Go1.brk (a.1,a.2.1,a.2.2.1,a.2.2.2.1,a.2.2.2.2.1,PUnit.unit)))
def Zsg:Ora:=ZaB false ZLW Zhp (λa=>10000000000000)
theorem ZAd:Zal (envX prog [(28,ZEY)] [] 255 8) (.block 0 (.loop (ZQ Tryz.f40.body 0))) Zsg:=
 loopP ⟨Zqi,Tv⟩
def ZjD (c:TC) (l:List EVTT):RT (Option (List TC)):=
 let x1:=runF false Zhp (λa=>10000000000000) (l,iN (Le l),0,c,[],())
 .br (okB x1) (Ls (getO (false,l,iN (Le l),0,c,[],()) x1).2.2.2.2.2.1) Ln
def ZEW (c:TC) (l:List EVTT):List TC:=getO ZjE.Df (ZjD c l).val
def ZwS (c:TC) (l:List EVTT):Bool:=okB (ZjD c l).val
def ZV8:En:=Zg Zqb ZjE (λa=>some (ZwS a.1 a.2)) (λa=>ZEW a.1 a.2)
theorem ZLV:Za prog 40 ZV8:=
 pureP 255 [(28,ZEY)] [(0,Zsg)] Zqb ZjE ⟨Zqi,Tv⟩ Tryz.func40 Tryz.call40 ⟨ZAd,Tv⟩ (t:=λa=>ZjD a.1 a.2)
def Zz6 (k:Int):Bool:=k==1||(k==2||k==3)
def Z1O (c:TC) (e:EVTT):TC:=(c.1,c.2.1,c.2.2.1,c.2.2.2.1,c.2.2.2.2.1,c.2.2.2.2.2.1,e.2.2.2.2.2.1,e.2.2.2.2.1,e.2.2.2.2.2.2.2.1,e.2.2.2.2.2.2.1,c.2.2.2.2.2.2.2.2.2.2)
def Zbb (c:TC) (e:EVTT):TC:=bif Zz6 e.1 then finX (Z1O (Zo c e.2.1) e) e.2.1 e.2.2.1 e.2.2.2.1 else bif e.1==4 then ZI c else c
theorem ZE1 (c:TC) (e:EVTT):ZIC c e=Zbb c e:=by unfold ZIC ZEX Zbb Zz6;simp only[RT.val];cases e.1==1<;>cases e.1==2<;>cases e.1==3<;>cases e.1==4<;>rfl
theorem ZTg (c:TC) (e:EVTT):ZMJ c e=Zbb c e:=by
 unfold ZMJ ZAH Zbb Zz6;simp only[RT.val];by_cases h:e.1=4
 ·have h1:(e.1==1)=false:=by rw[h];rfl
  have h2:(e.1==2)=false:=by rw[h];rfl
  have h3:(e.1==3)=false:=by rw[h];rfl
  have h4:(e.1==4)=true:=by rw[h];rfl
  rw[h1,h2,h3,h4];rfl
 ·have h4:(e.1==4)=false:=by simpa using h
  rw[h4];cases e.1==1<;>cases e.1==2<;>cases e.1==3<;>rfl
def ZyP (c:TC) (x:TY) (b:Int):TY:=(x.1,x.2.1,bif Zcz x.1 then b else x.2.2.1,bif x.1==1||x.1==8 then ZeQ c.1 b else x.2.2.2)
def cyX (c:TC) (s:Int) (g:List Int):List Int->List TY
 |[]=>[]
 |b::r=>bif (Zi c s g).2 then ZyP c (Zi c s g).1 b::cyX c s (g++[b]) r else []
def cycE (k:Int):Bool:=Zz6 k||(k==6||k==7)
def Zak (c:TC) (e:EVTT):List TY:=bif cycE e.1 then cyX (Zo c e.2.1) e.2.1 [] e.2.2.1 else []
theorem Zl4 (c:TC) (s:Int) (g:List Int) (b:Int) (r:List Int):cyX c s g (b::r)=bif (Zi c s g).2 then ZyP c (Zi c s g).1 b::cyX c s (g++[b]) r else []:=rfl
theorem ZwK (c:TC) (s:Int) (g:List Int):cyX c s g []=[]:=rfl
variable {α:Type}
theorem Zsd {b:Bool} {x y z:α} (h:b=true) (e:x=z:=by rfl):(bif b then x else y)=z:=by rw[h];exact e
theorem ZjV (g:List Int) (i:Nat):subL g 0 (i:Int)=g.take i:=by simp[subL]
theorem ZwI (g:List Int) (i:Nat) (h:i<g.length):g.drop i=R.get (R.int .u8) g (i:Int)::g.drop (i+1):=by rw[Yak h];simp[R.get,Yi h]
theorem ZsZ (g:List Int) (i:Nat) (h:i<g.length):g.take (i+1)=g.take i++[R.get (R.int .u8) g (i:Int)]:=by rw[Yat,Yi h];simp[R.get,Yi h]
theorem cyc_b (c:TC) (e:EVTT) (h:e.2.2.1.length<=1000000):ZjG c e=true/\Zqh c e=Zak c e:=by
 have hms:=mst;obtain⟨r,hr,h0,h1⟩:=ZC (fl:=true) (t:=Zbu) (fuel:=λ_=>10000000000000)
  (λa=>∃(i:Nat) (o:List TY),i<=e.2.2.1.length/\o.length<=i/\o++cyX (Zo c e.2.1) e.2.1 (e.2.2.1.take i) (e.2.2.1.drop i)=cyX (Zo c e.2.1) e.2.1 [] e.2.2.1/\a=(e.2.2.1,(e.2.2.1.length:Int),(i:Int),Zo c e.2.1,e,o,()))
  (λa=>Int.toNat (a.2.1-a.2.2.1)) (λr=>r.1=false/\r.2.2.2.2.2.2.1=cyX (Zo c e.2.1) e.2.1 [] e.2.2.1)
  (by
   rintro a ⟨i,o,hi,ho,hc,rfl⟩;by_cases hlt:i<e.2.2.1.length
   ·have d:decide ((i:Int)<(e.2.2.1.length:Int))=true:=Yz (by omega);have hin:Ze (i:Int) e.2.2.1.length=true:=ZF.2 ⟨by omega,by omega⟩;have w:IntKind.wrap .i64 ((i:Int)+1)=((i+1:Nat):Int):=by rw[wrap_i64 _ (by omega) (by omega)];omega
    have h0:(decide ((0:Int)<=0)&&decide ((0:Int)<=(i:Int))&&(decide ((i:Int)=0)||decide ((i:Int)<=iN e.2.2.1.length)))=true:=by
     have:(i:Int)<=iN e.2.2.1.length:=by simp only[iN,Le];omega
     simp[this]
    have hb:∀x:TY,Nat.ble (o++[x]).length most=true:=λx=>Zan (by simp;omega)
    rw[ZwI _ i hlt,Zl4] at hc;cases hn:(Zi (Zo c e.2.1) e.2.1 (e.2.2.1.take i)).2
    ·right;left;rw[hn] at hc;simp only[Yc,YR] at hc;refine⟨(e.2.2.1,(e.2.2.1.length:Int),(i:Int),Zo c e.2.1,e,o,()),?_,rfl,hc⟩;simp only[Zbu,RT.val,d,hin,ZjV,hn,hb,Ym,Yg,Yf,Yt,Yj,Ya];exact Zsd h0
    ·left;rw[hn] at hc;simp only[Ya] at hc;refine⟨(e.2.2.1,(e.2.2.1.length:Int),((i+1:Nat):Int),Zo c e.2.1,e,o++[ZyP (Zo c e.2.1) (Zi (Zo c e.2.1) e.2.1 (e.2.2.1.take i)).1 (R.get (R.int .u8) e.2.2.1 (i:Int))],()),?_,⟨i+1,_,by omega,by simp;omega,?_,rfl⟩,by simp only;omega⟩
     ·simp only[Zbu,RT.val,d,hin,w,ZjV,hn,hb,Ym,Yg,Yf,Yt,Yj,Ya,Yc];exact Zsd h0
     ·rw[ZsZ _ i hlt,Yo];exact hc
   ·right;left;have e1:i=e.2.2.1.length:=by omega
    subst e1;have d:decide ((e.2.2.1.length:Int)<(e.2.2.1.length:Int))=false:=Y0 (by omega);rw[Yah,YaP,ZwK,YR] at hc
    exact⟨(e.2.2.1,(e.2.2.1.length:Int),(e.2.2.1.length:Int),Zo c e.2.1,e,o,()),by simp only[Zbu,RT.val,d,Yc],rfl,hc⟩)
  (e.2.2.1,(e.2.2.1.length:Int),0,Zo c e.2.1,e,[],()) ⟨0,[],Ys _,Ye _,rfl,rfl⟩ (by simp only;omega)
 obtain⟨r1,r2⟩:=r;simp only at h0 h1;subst h0;have hv:(ZfE c e).val=some (Zak c e):=by unfold ZfE Zak cycE Zz6;simp only[RT.val,iN,Le,hr,okB,getO,Ya,Yc,h1];cases e.1==1<;>cases e.1==2<;>cases e.1==3<;>cases e.1==6<;>cases e.1==7<;>rfl
 exact⟨by simp only[ZjG,hv];rfl,by simp only[Zqh,hv,getO]⟩
def Zdc (c:TC):List EVTT->List TC
 |[]=>[]
 |e::l=>Zbb c e::Zdc (Zbb c e) l
def Zjl (c:TC) (l:List EVTT):TC:=l.foldl Zbb c
theorem Zx1 (c:TC):∀l:List EVTT,(Zdc c l).length=l.length:=by
 intro l
 induction l generalizing c with
 |nil=>rfl
 |cons e l ih=>simp only[Zdc,List.length_cons,ih]
variable {r:R}
theorem ZsY (g:List r.den) (i:Nat) (h:i<g.length):g.take (i+1)=g.take i++[R.get r g (i:Int)]:=by rw[Yat,Yi h];simp[R.get,Yi h]
theorem Z0Q (g:List r.den) (i:Nat) (h:i<g.length):g.drop i=R.get r g (i:Int)::g.drop (i+1):=by rw[Yak h];simp[R.get,Yi h]
theorem ZUa (T:List EVTT×Int×Int×TC×List TC×PUnit->RT (Option (Go1 (List EVTT×Int×Int×TC×List TC×PUnit))))
  (hT:∀(l:List EVTT) (n i:Int) (c:TC) (o:List TC),(T (l,n,i,c,o,())).val=bif decide (i<n) then (bif !Ze i l.length||Nat.ble (o++[Zbb c (R.get Zau l i)]).length most then (bif Ze i l.length then some (.cont (l,n,IntKind.wrap .i64 (i+1),Zbb c (R.get Zau l i),o++[Zbb c (R.get Zau l i)],())) else none) else none) else some (.brk (l,n,i,c,o,())))
  (c:TC) (l:List EVTT) (h:l.length<=1000000):∃z,runF false T (λ_=>10000000000000) (l,(l.length:Int),0,c,[],())=some (false,(l,(l.length:Int),(l.length:Int),z,Zdc c l,())):=by
 have hms:=mst;obtain⟨r,hr,z,h1⟩:=ZC (fl:=false) (t:=T) (fuel:=λ_=>10000000000000)
  (λa=>∃(i:Nat) (c':TC) (o:List TC),i<=l.length/\o.length=i/\o++Zdc c' (l.drop i)=Zdc c l/\a=(l,(l.length:Int),(i:Int),c',o,()))
  (λa=>Int.toNat (a.2.1-a.2.2.1)) (λr=>∃z,r=(false,(l,(l.length:Int),(l.length:Int),z,Zdc c l,())))
  (by
   rintro a ⟨i,c',o,hi,ho,hc,rfl⟩;by_cases hlt:i<l.length
   ·left;have d:decide ((i:Int)<(l.length:Int))=true:=Yz (by omega);have hin:Ze (i:Int) l.length=true:=ZF.2 ⟨by omega,by omega⟩;have w:IntKind.wrap .i64 ((i:Int)+1)=((i+1:Nat):Int):=by rw[wrap_i64 _ (by omega) (by omega)];omega
    have hb:∀x:TC,Nat.ble (o++[x]).length most=true:=λx=>Zan (by simp;omega)
    rw[Z0Q (r:=Zau) l i hlt] at hc;refine⟨(l,(l.length:Int),((i+1:Nat):Int),Zbb c' (R.get Zau l (i:Int)),o++[Zbb c' (R.get Zau l (i:Int))],()),?_,⟨i+1,_,_,by omega,by simp;omega,?_,rfl⟩,by simp only;omega⟩
    ·rw[hT];simp only[d,hin,w,hb,Yf,Ya]
    ·rw[Yo];exact hc
   ·right;left;have e1:i=l.length:=by omega
    subst e1;have d:decide ((l.length:Int)<(l.length:Int))=false:=Y0 (by omega);rw[YaP] at hc;simp only[Zdc,YR] at hc;subst hc
    exact⟨_,by rw[hT];simp only[d,Yc],c',rfl⟩)
  (l,(l.length:Int),0,c,[],()) ⟨0,c,[],Ys _,rfl,rfl,rfl⟩ (by simp only;omega)
 exact⟨z,by rw[<-h1];exact hr⟩
theorem Z1q (c:TC) (l:List EVTT) (h:l.length<=1000000):ZwS c l=true/\ZEW c l=Zdc c l:=by
 obtain⟨z,hr⟩:=ZUa Zhp (λl n i c o=>by simp only[Zhp,RT.val,ZE1]) c l h;have hv:(ZjD c l).val=some (Zdc c l):=by simp only[ZjD,RT.val,iN,Le,hr,okB,getO,Ya]
 exact⟨by simp only[ZwS,hv];rfl,by simp only[ZEW,hv,getO]⟩
def ZT7 (e:EVTT):Bool:=Nat.ble e.2.2.1.length 1000000
def ZT5 {α:Type} (l:List α):Bool:=Nat.ble l.length 1000000
theorem ZT4 {l:List α} (h:ZT5 l=true):l.length<=1000000:=by simpa [ZT5] using h
theorem ZT6 {e:EVTT} (h:ZT7 e=true):e.2.2.1.length<=1000000:=by simpa [ZT7] using h
def ZfF:En:=Zg ZwU ZQe (λ_=>none) (λa=>Zbb a.1 a.2)
theorem ZdL:Za prog 28 ZfF:=Zqi.tot (λa h=>by simp) (λa h=>ZE1 a.1 a.2)
def Ze9:En:=Zg ZwU ZQe (λ_=>none) (λa=>Zbb a.1 a.2)
theorem ZeE:Za prog 92 Ze9:=ZMI.tot (λa h=>by simp) (λa h=>ZTg a.1 a.2)
def Zqg:En:=Zg ZwU ZgN (λa=>some (ZT7 a.2)) (λa=>Zak a.1 a.2)
theorem Zqf:Za prog 27 Zqg:=ZmG Zsj λa h=>cyc_b a.1 a.2 (ZT6 h)
def ZAe:En:=Zg Zqb ZjE (λa=>some (ZT5 a.2)) (λa=>Zdc a.1 a.2)
theorem ZEV:Za prog 40 ZAe:=ZmG ZLV λa h=>Z1q a.1 a.2 (ZT4 h)
theorem ZXX (c:TC) (e:EVTT) (h:e.2.2.1.length<=9223372036854775807):ZjG c e=true/\Zqh c e=Zak c e:=by
 have hms:=mst;obtain⟨r,hr,h0,h1⟩:=ZC (fl:=true) (t:=Zbu) (fuel:=λ_=>10000000000000)
  (λa=>∃(i:Nat) (o:List TY),(i<=e.2.2.1.length/\i<=5)/\o.length<=i/\o++cyX (Zo c e.2.1) e.2.1 (e.2.2.1.take i) (e.2.2.1.drop i)=cyX (Zo c e.2.1) e.2.1 [] e.2.2.1/\a=(e.2.2.1,(e.2.2.1.length:Int),(i:Int),Zo c e.2.1,e,o,()))
  (λa=>Int.toNat (6-a.2.2.1)) (λr=>r.1=false/\r.2.2.2.2.2.2.1=cyX (Zo c e.2.1) e.2.1 [] e.2.2.1)
  (by
   rintro a ⟨i,o,⟨hi,hi5⟩,ho,hc,rfl⟩;by_cases hlt:i<e.2.2.1.length
   ·have d:decide ((i:Int)<(e.2.2.1.length:Int))=true:=Yz (by omega);have hin:Ze (i:Int) e.2.2.1.length=true:=ZF.2 ⟨by omega,by omega⟩;have w:IntKind.wrap .i64 ((i:Int)+1)=((i+1:Nat):Int):=by rw[wrap_i64 _ (by omega) (by omega)];omega
    have h0:(decide ((0:Int)<=0)&&decide ((0:Int)<=(i:Int))&&(decide ((i:Int)=0)||decide ((i:Int)<=iN e.2.2.1.length)))=true:=by
     have:(i:Int)<=iN e.2.2.1.length:=by simp only[iN,Le];omega
     simp[this]
    have hb:∀x:TY,Nat.ble (o++[x]).length most=true:=λx=>Zan (by simp;omega)
    rw[ZwI _ i hlt,Zl4] at hc;cases hn:(Zi (Zo c e.2.1) e.2.1 (e.2.2.1.take i)).2
    ·right;left;rw[hn] at hc;simp only[Yc,YR] at hc;refine⟨(e.2.2.1,(e.2.2.1.length:Int),(i:Int),Zo c e.2.1,e,o,()),?_,rfl,hc⟩;simp only[Zbu,RT.val,d,hin,ZjV,hn,hb,Ym,Yg,Yf,Yt,Yj,Ya];exact Zsd h0
    ·left;rw[hn] at hc;simp only[Ya] at hc;have h5:i<5:=by
      rcases Y3 i 5 with h5|h5
      ·exact h5
      ·rw[Zv4 _ _ _ (by rw[YA];omega)] at hn;simp at hn
     refine⟨(e.2.2.1,(e.2.2.1.length:Int),((i+1:Nat):Int),Zo c e.2.1,e,o++[ZyP (Zo c e.2.1) (Zi (Zo c e.2.1) e.2.1 (e.2.2.1.take i)).1 (R.get (R.int .u8) e.2.2.1 (i:Int))],()),?_,⟨i+1,_,⟨by omega,by omega⟩,by simp;omega,?_,rfl⟩,by simp only;omega⟩
     ·simp only[Zbu,RT.val,d,hin,w,ZjV,hn,hb,Ym,Yg,Yf,Yt,Yj,Ya,Yc];exact Zsd h0
     ·rw[ZsZ _ i hlt,Yo];exact hc
   ·right;left;have e1:i=e.2.2.1.length:=by omega
    subst e1;have d:decide ((e.2.2.1.length:Int)<(e.2.2.1.length:Int))=false:=Y0 (by omega);rw[Yah,YaP,ZwK,YR] at hc
    exact⟨(e.2.2.1,(e.2.2.1.length:Int),(e.2.2.1.length:Int),Zo c e.2.1,e,o,()),by simp only[Zbu,RT.val,d,Yc],rfl,hc⟩)
  (e.2.2.1,(e.2.2.1.length:Int),0,Zo c e.2.1,e,[],()) ⟨0,[],⟨Ys _,by omega⟩,Ye _,rfl,rfl⟩ (by simp only;omega)
 obtain⟨r1,r2⟩:=r;simp only at h0 h1;subst h0;have hv:(ZfE c e).val=some (Zak c e):=by unfold ZfE Zak cycE Zz6;simp only[RT.val,iN,Le,hr,okB,getO,Ya,Yc,h1];cases e.1==1<;>cases e.1==2<;>cases e.1==3<;>cases e.1==6<;>cases e.1==7<;>rfl
 exact⟨by simp only[ZjG,hv];rfl,by simp only[Zqh,hv,getO]⟩
theorem ZXW (c:TC) (e:EVTT) (h:e.2.2.1.length<=9223372036854775807):ZsB c e=true/\ZAE c e=Zak c e:=by
 have hms:=mst;obtain⟨z1,z2,z3,z4,z5,z6,z7,z8,z9,za,zb,zc,zd,ze,zf,zg,zh,zi,hz⟩:∃z1 z2 z3 z4 z5 z6 z7 z8 z9 za zb zc zd ze zf zg zh zi,(e.1,e.2.1,e.2.2.1,e.2.2.2.1.1,e.2.2.2.1.2.1,e.2.2.2.1.2.2.1,e.2.2.2.1.2.2.2.1,e.2.2.2.1.2.2.2.2.1,e.2.2.2.1.2.2.2.2.2.1,e.2.2.2.1.2.2.2.2.2.2.1,e.2.2.2.1.2.2.2.2.2.2.2.1,e.2.2.2.1.2.2.2.2.2.2.2.2,e.2.2.2.2.1,e.2.2.2.2.2.1,e.2.2.2.2.2.2.1,e.2.2.2.2.2.2.2.1,e.2.2.2.2.2.2.2.2.1,e.2.2.2.2.2.2.2.2.2)=(z1,z2,z3,z4,z5,z6,z7,z8,z9,za,zb,zc,zd,ze,zf,zg,zh,zi):=⟨_,_,_,_,_,_,_,_,_,_,_,_,_,_,_,_,_,_,rfl⟩;have key:∃r,runF true ZcK (λ_=>10000000000000) ([],e.2.2.1,(e.2.2.1.length:Int),0,Zo c e.2.1,e,z1,z2,z3,z4,z5,z6,z7,z8,z9,za,zb,zc,zd,ze,zf,zg,zh,zi,[],())=some r/\
   ((r.1=true/\r.2.1=cyX (Zo c e.2.1) e.2.1 [] e.2.2.1)\/(r.1=false/\r.2.2.2.2.2.2.2.2.2.2.2.2.2.2.2.2.2.2.2.2.2.2.2.2.2.1=cyX (Zo c e.2.1) e.2.1 [] e.2.2.1)):=by
  refine ZC (fl:=true) (t:=ZcK) (fuel:=λ_=>10000000000000)
   (λa=>∃(i:Nat) (o:List TY),(i<=e.2.2.1.length/\i<=5)/\o.length<=i/\o++cyX (Zo c e.2.1) e.2.1 (e.2.2.1.take i) (e.2.2.1.drop i)=cyX (Zo c e.2.1) e.2.1 [] e.2.2.1/\a=([],e.2.2.1,(e.2.2.1.length:Int),(i:Int),Zo c e.2.1,e,z1,z2,z3,z4,z5,z6,z7,z8,z9,za,zb,zc,zd,ze,zf,zg,zh,zi,o,()))
   (λa=>Int.toNat (6-a.2.2.2.1)) _ ?_ _ ⟨0,[],⟨Ys _,by omega⟩,Ye _,rfl,rfl⟩ (by simp only;omega)
  rintro a ⟨i,o,⟨hi,hi5⟩,ho,hc,rfl⟩;by_cases hlt:i<e.2.2.1.length
  ·have d:decide ((i:Int)<(e.2.2.1.length:Int))=true:=Yz (by omega);have hin:Ze (i:Int) e.2.2.1.length=true:=ZF.2 ⟨by omega,by omega⟩;have w:IntKind.wrap .i64 ((i:Int)+1)=((i+1:Nat):Int):=by rw[wrap_i64 _ (by omega) (by omega)];omega
   have h0:(decide ((0:Int)<=0)&&decide ((0:Int)<=(i:Int))&&(decide ((i:Int)=0)||decide ((i:Int)<=iN e.2.2.1.length)))=true:=by
    have:(i:Int)<=iN e.2.2.1.length:=by simp only[iN,Le];omega
    simp[this]
   have hb:∀x:TY,Nat.ble (o++[x]).length most=true:=λx=>Zan (by simp;omega)
   rw[ZwI _ i hlt,Zl4] at hc;cases hn:(Zi (Zo c e.2.1) e.2.1 (e.2.2.1.take i)).2
   ·right;right;rw[hn] at hc;simp only[Yc,YR] at hc;refine⟨(o,e.2.2.1,(e.2.2.1.length:Int),(i:Int),Zo c e.2.1,e,z1,z2,z3,z4,z5,z6,z7,z8,z9,za,zb,zc,zd,ze,zf,zg,zh,zi,o,()),rfl,?_,.inl ⟨rfl,hc⟩⟩;simp only[ZcK,RT.val,d,hin,ZjV,hn,hb,Ym,Yg,Yf,Yt,Yj,Ya];exact Zsd h0
   ·left;rw[hn] at hc;simp only[Ya] at hc;have h5:i<5:=by
     rcases Y3 i 5 with h5|h5
     ·exact h5
     ·rw[Zv4 _ _ _ (by rw[YA];omega)] at hn;simp at hn
    refine⟨([],e.2.2.1,(e.2.2.1.length:Int),((i+1:Nat):Int),Zo c e.2.1,e,z1,z2,z3,z4,z5,z6,z7,z8,z9,za,zb,zc,zd,ze,zf,zg,zh,zi,o++[ZyP (Zo c e.2.1) (Zi (Zo c e.2.1) e.2.1 (e.2.2.1.take i)).1 (R.get (R.int .u8) e.2.2.1 (i:Int))],()),?_,⟨i+1,_,⟨by omega,by omega⟩,by simp;omega,?_,rfl⟩,by simp only;omega⟩
    ·simp only[ZcK,RT.val,d,hin,w,ZjV,hn,hb,Ym,Yg,Yf,Yt,Yj,Ya,Yc];exact Zsd h0
    ·rw[ZsZ _ i hlt,Yo];exact hc
  ·right;left;have e1:i=e.2.2.1.length:=by omega
   subst e1;have d:decide ((e.2.2.1.length:Int)<(e.2.2.1.length:Int))=false:=Y0 (by omega);rw[Yah,YaP,ZwK,YR] at hc;exact⟨([],e.2.2.1,(e.2.2.1.length:Int),(e.2.2.1.length:Int),Zo c e.2.1,e,z1,z2,z3,z4,z5,z6,z7,z8,z9,za,zb,zc,zd,ze,zf,zg,zh,zi,o,()),by simp only[ZcK,RT.val,d,Yc],.inr ⟨rfl,hc⟩⟩
 obtain⟨r,hr,h1⟩:=key;simp only[pinj] at hz;obtain⟨rfl,rfl,rfl,rfl,rfl,rfl,rfl,rfl,rfl,rfl,rfl,rfl,rfl,rfl,rfl,rfl,rfl,rfl⟩:=hz;obtain⟨r1,r2⟩:=r;simp only at h1;have hv:(Zin c e).val=some (Zak c e):=by
  unfold Zin Zak cycE Zz6;have hbool:∀a b c d f:Bool,(!(a||(b||c))&&(!d&& !f))= !(a||(b||c)||(d||f)):=by decide
  have hne:∀k:Int,(e.1 !=k)= !(e.1==k):=λk=>rfl
  rcases h1 with ⟨h0,h1⟩|⟨h0,h1⟩
  ·subst h0;simp only[RT.val,iN,Le,hr,okB,getO,Ya,Yc,h1,hne,hbool];cases e.1==1||(e.1==2||e.1==3)||(e.1==6||e.1==7)<;>rfl
  ·subst h0;simp only[RT.val,iN,Le,hr,okB,getO,Ya,Yc,h1,hne,hbool];cases e.1==1||(e.1==2||e.1==3)||(e.1==6||e.1==7)<;>rfl
 exact⟨by simp only[ZsB,hv];rfl,by simp only[ZAE,hv,getO]⟩
theorem Z2r (a:TC) (s:Int):∀(r pre:List Int),pre.length<=5->(cyX a s pre r).length+pre.length<=5
 |[],pre,h=>by rw[ZwK];simpa using h
 |b::r,pre,h=>by
  rw[Zl4];cases hn:(Zi a s pre).2
  ·simpa using h
  ·have h5:pre.length<5:=by
    rcases Y3 pre.length 5 with h5|h5
    ·exact h5
    ·rw[Zv4 _ _ _ h5] at hn;simp at hn
   have:=Z2r a s r (pre++[b]) (by simp;omega);simp only[Yd,List.length_singleton] at this;simp only[Ya,List.length_cons];omega
theorem Z2q (c:TC) (e:EVTT):(Zak c e).length<=5:=by
 unfold Zak;cases cycE e.1
 ·exact Ys _
 ·have:=Z2r (Zo c e.2.1) e.2.1 e.2.2.1 [] (by simp);simpa using this
def Zqe:En:=Zg ZwU ZgN (λ_=>none) (λa=>Zak a.1 a.2)
theorem Zqd:Za Tryz.prog 27 Zqe:=Zsj.tot
 (λa h=>by have h1:=(ZXX a.1 a.2 h.2.2.2.1.1).1;simp[h1]) (λa h=>(ZXX a.1 a.2 h.2.2.2.1.1).2)
def Zf2:En:=Zg ZwU ZgN (λ_=>none) (λa=>Zak a.1 a.2)
theorem ZhL:Za Tryz.prog 94 Zf2:=ZIO.tot
 (λa h=>by have h1:=(ZXW a.1 a.2 h.2.2.2.1.1).1;simp[h1]) (λa h=>(ZXW a.1 a.2 h.2.2.2.1.1).2)
theorem Ziy {τ:Type} {fl:Bool} (T:τ->RT (Option (Go1 τ))) (mk:Int->τ) (idx:τ->Int) (n:Nat) (hi:∀i,idx (mk i)=i) (hT:∀i:Nat,i<n->(T (mk i)).val=some (.cont (mk ((i+1:Nat):Int)))) (hE:(T (mk n)).val=some (.brk (mk n))) (hn:n<=most):
  runF fl T (λ_=>10000000000000) (mk 0)=some (false,mk n):=by
 have hms:=mst;obtain⟨r,hr,h1⟩:=ZC (fl:=fl) (t:=T) (fuel:=λ_=>10000000000000)
  (λa=>∃i:Nat,i<=n/\a=mk i) (λa=>n-(idx a).toNat) (λr=>r=(false,mk n))
  (by
   rintro a ⟨i,h,rfl⟩;by_cases hlt:i<n
   ·exact .inl ⟨_,hT i hlt,⟨i+1,hlt,rfl⟩,by simp only[hi];omega⟩
   ·have e:i=n:=by omega
    subst e
    exact .inr (.inl ⟨_,hE,rfl⟩))
  (mk 0) ⟨0,Ys _,rfl⟩ (by simp only[hi];omega)
 rw[h1] at hr;exact hr
theorem Zkz {l:List α} {i:Nat} (h:i<l.length) (hl:l.length<=most):decide ((i:Int)<iN l.length)=true/\Ze (i:Int) l.length=true/\IntKind.wrap .i64 ((i:Int)+1)=((i+1:Nat):Int):=by have hms:=mst;refine⟨by simp only[iN,Le,Yk];omega,ZF.2 ⟨by omega,by omega⟩,?_⟩;rw[wrap_i64 _ (by omega) (by omega)];omega
theorem ZkG (n:Nat):decide ((n:Int)<iN n)=false:=by simp[iN,Le]
abbrev ZaH:R:=R.int u8
abbrev ZaI:Nat:=5
abbrev ZjL:List Sh:=[So (R.sl Zdd)]
def ZAD:LS:={n:=64,Sl:=[(3,.tip 0),(7,.code (So (R.sl Zdd))),(8,.code (So Kc)),(9,.code (So Kc))],Bx:=[],Sg:=[⟨Ka,5,false⟩]}
def ZhK (a:List INPT×Int×Int×List Int×PUnit):RT (Option (Go1 (List INPT×Int×Int×List Int×PUnit))):=
 let x1:INPT:=R.get Zdd a.1 a.2.2.1
 let x2:= !x1.1
 let x3:=Ze8 x2 0
 let x4:= !x3
 let x5:=x1.2
 let x6:=x5.1
 let x7:=Ze8 x6 1
 let x8:= !x7
 let x9:=x5.2
 let x10:=x9.1
 let x11:=Ze8 x10 2
 let x12:= !x11
 let x13:=x9.2
 let x14:=x13.1
 let x15:=Ze8 x14 3
 let x16:= !x15
 let p2:=x16::x12::x8::x4::[]
 let x17:=x13.2
 let x18:=x17.1
 let x19:=Ze8 x18 4
 let x20:= !x19
 let p4:=x20::p2
 let x21:=x17.2
 let x22:=x21.1
 let x23:=Ze8 x22 5
 let x24:= !x23
 let p6:=x24::p4
 let x25:=x21.2
 let x26:=x25.1
 let x27:=Ze8 x26 6
 let p7:=(!x27)::p6
 let x28:=x25.2
 let x29:=x28.1
 let x30:=orR p7 (Ze8 x29 7)
 let x31:= !x30
 let x32:=orR p6 x27
 let x33:= !x32
 let p1:=x33::x31::(decide (a.2.2.1>=65536))::(!Ze a.2.2.1 (Le a.1))::[]
 let x34:=orR p4 x23
 let x35:= !x34
 let p3:=x35::p1
 let x36:=orR p2 x19
 let x37:= !x36
 let p5:=x37::p3
 let x38:=x4||(x8||(x12||x15))
 let x39:= !x38
 let p8:=x39::p5
 let x40:=x4||(x8||x11)
 let x41:= !x40
 let p9:=x41::p8
 let x42:=x4||x7
 let x43:= !x42
 let p10:=x43::p9
 let p11:=x4::p10
 let x44:=orI u8 (orI u8 (orI u8 (orI u8 (orI u8 (orI u8 (orI u8 (wBit x2 0) (wBit x6 1)) (wBit x10 2)) (wBit x14 3)) (wBit x18 4)) (wBit x22 5)) (wBit x26 6)) (wBit x29 7)
 let x45:=x28.2
 let x46:=x45.1
 let x47:=x45.2
 let x48:List Int:=a.2.2.2.1++[x44,x46,x47,Zxp x44 x46 x47]
 .br (decide (a.2.2.1<a.2.1)) (.br (orR p11 (Nat.ble (Le x48) most)) (.br (orR p10 x3) (.br (orR p9 x42) (.br (orR p8 x40) (.br (orR p5 x38) (.br (orR p3 x36) (.br (orR p1 x34) (.br (!Ze a.2.2.1 (Le a.1)||(decide (a.2.2.1>=65536)||(x31||x32))) (.br (!Ze a.2.2.1 (Le a.1)||(decide (a.2.2.1>=65536)||x30)) (.br (Ze a.2.2.1 (Le a.1)) (.br (decide (a.2.2.1>=65536)) (Ls (Go1.brk (a.1,a.2.1,a.2.2.1,a.2.2.2.1,PUnit.unit))) (Ls (Go1.cont (a.1,a.2.1,i64.wrap (a.2.2.1+1),x48,PUnit.unit)))) Ln) Ln) Ln) Ln) Ln) Ln) Ln) Ln) Ln) Ln) (Ls (Go1.brk (a.1,a.2.1,a.2.2.1,a.2.2.2.1,PUnit.unit)))
def Zmk:Ora:=ZaB false ZAD ZhK (λa=>10000000000000)
theorem Zsz:Zal (envX prog [(116,ZYf),(117,Zmp)] [] 127 8) (.block 0 (.loop (ZQ Tryz.f56.body 0))) Zmk:=
 loopP ⟨ZMG,Ziq,Tv⟩
def Zf0 (l:List INPT):RT (Option (List Int)):=
 let x1:=runF false ZhK (λa=>10000000000000) (l,iN (Le l),0,[],())
 .br (okB x1) (Ls (getO (false,l,iN (Le l),0,[],()) x1).2.2.2.2.1) Ln
def Zbj (l:List INPT):List Int:=getO [] (Zf0 l).val
def Zf1 (l:List INPT):Bool:=okB (Zf0 l).val
def Zxi:En:=frzE (newE ZaH ZaI ZjL (λa=>some (Zf1 a)) (λa=>Zbj a))
theorem Zxj:Za prog 56 (newE ZaH ZaI ZjL (λa=>some (Zf1 a)) (λa=>Zbj a)):=
 ZlT (P:=prog) (n:=127) (k:=8) (l:=[(116,ZYf),(117,Zmp)]) (ol:=[(0,Zmk)]) ⟨ZMG,Ziq,Tv⟩ Tryz.func56 rfl (by kernel_rfl) Tryz.call56 ⟨Zsz,Tv⟩ (r:=ZaH) (T:=ZaI) (ts:=ZjL) (t:=λa=>Zf0 a) (λa=>by kernel_rfl)
theorem ZAC:Za prog 56 Zxi:=ZzV Zxj
def Zhb (s:List Int×Int) (n:Int):RT (Option (List Int×List Int×Int)):=
 let x1:=decide (iN (Le (Stg.l (newG ZaH ZaI (Zbj (Z8 s n).1))))>0)
 let x2:=x1&&(Zd (Z8 s n).2 4).1==0
 let x3:= !x2
 let x4:List Int:=bif x1 then (Zd (Z8 s n).2 4).2.1 else (Z8 s n).2.1
 let x5:Int:=bif x1 then (Zd (Z8 s n).2 4).2.2 else (Z8 s n).2.2
 let x6:List Int×Int:=(x4,x5)
 let x7:=Zj x6 (iN (Le (Stg.l (newG ZaH ZaI (Zbj (Z8 s n).1)))))
 let x8:= !x7
 let x9:=Zd x6 (iN (Le (Stg.l (newG ZaH ZaI (Zbj (Z8 s n).1)))))
 let x10:=x9.1
 let x11:=Ze x10 (Le (Stg.l (newG ZaH ZaI (Zbj (Z8 s n).1))))
 let x12:= !x11
 let x13:=x9.2
 let x14:=Zj x13 8
 let x15:= !x14
 let p1:=x15::x12::x8::x3::[]
 let x16:=Zd x13 8
 let x17:=x16.1
 let x18:=decide (0<=x17)
 let p2:=(!x18)::p1
 let x19:=x16.2
 .br (!Zjf s n||Zf1 (Z8 s n).1) (.br (Zjf s n) (.br (!x1||Zj (Z8 s n).2 4) (.br (orR p2 x11) (.br (orR p1 x18) (.br (x3||(x8||(x12||x14))) (.br (x3||(x8||x11)) (.br (x3||x7) (Ls ((bif x2 then setI (Stg.l (newG ZaH ZaI (Zbj (Z8 s n).1))) x10 (xorI u8 (R.get (Stg.r (newG ZaH ZaI (Zbj (Z8 s n).1))) (Stg.l (newG ZaH ZaI (Zbj (Z8 s n).1))) x10) (shlI u8 1 x17)) else Stg.l (newG ZaH ZaI (Zbj (Z8 s n).1)),bif x2 then x19.1 else x4,bif x2 then x19.2 else x5))) Ln) Ln) Ln) Ln) Ln) Ln) Ln) Ln
def Zd6 (s:List Int×Int) (n:Int):List Int×List Int×Int:=getO (ZMz.Df,ZEn.Df) (Zhb s n).val
def Zhc (s:List Int×Int) (n:Int):Bool:=okB (Zhb s n).val
def ZHN:En:=boxE ZEn ZyV ZMz (λa=>some (Zhc a.1 a.2)) (λa=>Zd6 a.1 a.2)
theorem ZLr:Za prog 67 ZHN:=
 Zb8 (P:=prog) (n:=63) (k:=8) (l:=[(56,Zxi),(68,Zco),(125,ZHO)]) (ol:=[]) ⟨ZAC,Za2,ZLu,Tv⟩ Tryz.func67 rfl (by kernel_rfl) Tryz.call67 trivial (rb:=ZEn) (ts:=ZyV) (rs:=ZMz) (t:=λa=>Zhb a.1 a.2) (λa=>by kernel_rfl)
theorem ZSL:ZhK=ZdF:=by funext a;rfl
theorem ZTs (l:List INPT) (hl:l.length<=1000):Zf1 l=true/\Zbj l=Zml l/\(Zbj l).length=4*l.length:=by
 have h:=ZIM l hl;have e:Zf0 l=ZgQ l:=by unfold Zf0 ZgQ;rw[ZSL]
 have e2:Zbj l=Zml l:=by unfold Zbj Zml;rw[e];rfl
 refine⟨by unfold Zf1;rw[e];exact h.1,e2,by rw[e2];exact h.2⟩
theorem ZLs {s:List Int×Int} {k:Int} (h:NB s k) (hk:k<=50000) (n:Nat) (hn:n<=250):
  Zhc s (n:Int)=true/\NB (Zd6 s (n:Int)).2 (k+10+30*n)/\(Zd6 s (n:Int)).1.length<=4*n/\∃m:Nat,(Zd6 s (n:Int)).1.length=4*m:=by
 have hms:=mst;obtain⟨c1,b1,l1⟩:=ZLv h (by omega) n hn;obtain⟨c2,e2,l2⟩:=ZTs (Z8 s (n:Int)).1 (by omega);have hg:∀l:List Int,Stg.l (newG ZaH ZaI l)=l:=λ_=>rfl
 have hr:∀l:List Int,Stg.r (newG ZaH ZaI l)=R.int .u8:=λ_=>rfl
 obtain⟨L,hL⟩:∃L,L=Zbj (Z8 s (n:Int)).1:=⟨_,rfl⟩;rw[<-hL] at l2;obtain⟨c3,b3,_⟩:=ZB b1 (by omega) 4 (by decide) (by decide);have b4:NB (bif decide (iN L.length>0) then (Zd (Z8 s (n:Int)).2 4).2.1 else (Z8 s (n:Int)).2.1,bif decide (iN L.length>0) then (Zd (Z8 s (n:Int)).2 4).2.2 else (Z8 s (n:Int)).2.2) (k+3+30*n):=by
  cases decide (iN L.length>0)
  ·exact b1.up (by omega)
  ·exact b3.up (by omega)
 obtain⟨s4,hs4⟩:∃s4:List Int×Int,s4=(bif decide (iN L.length>0) then (Zd (Z8 s (n:Int)).2 4).2.1 else (Z8 s (n:Int)).2.1,bif decide (iN L.length>0) then (Zd (Z8 s (n:Int)).2 4).2.2 else (Z8 s (n:Int)).2.2):=⟨_,rfl⟩;rw[<-hs4] at b4;have hv:∃l s',(Zhb s (n:Int)).val=some (l,s')/\NB s' (k+10+30*n)/\l.length=L.length:=by
  by_cases hz:0<L.length
  ·have d:decide (iN L.length>0)=true:=Yz (by simp only[iN,Le];omega);obtain⟨c5,b5,d0,d1⟩:=ZB b4 (by omega) (iN L.length) (by simp only[iN,Le];omega) (by simp only[iN,Le];omega);obtain⟨c6,b6,f0,f1⟩:=ZB b5 (by omega) 8 (by decide) (by decide);have r5:Ze (Zd s4 (iN L.length)).1 L.length=true:=ZF.2 ⟨d0,by simpa [iN,Le] using d1⟩;have e6:decide (0<=(Zd (Zd s4 (iN L.length)).2 8).1)=true:=Yz f0;rw[d] at hs4;simp only[Ya] at hs4;unfold Zhb;simp only[RT.val,hg,hr,<-hL,c1,c2,d,c3,<-hs4,c5,r5,c6,e6,ZcN,ZbT,YU,Yg,Yf,Yj,Ya];cases (Zd (Z8 s (n:Int)).2 4).1==0
   ·exact⟨_,_,rfl,b3.up (by omega),rfl⟩
   ·exact⟨_,_,rfl,b6.up (by omega),by simp only[Ya,setI,YaA]⟩
  ·have d:decide (iN L.length>0)=false:=Y0 (by simp only[iN,Le];omega);rw[d] at hs4;simp only[Yc] at hs4;unfold Zhb;simp only[RT.val,hg,hr,<-hL,c1,c2,d,ZcN,ZbT,Y1,Yg,Ym,Yt,Yf,Yj,Ya,Yc];exact⟨_,_,rfl,b1.up (by omega),rfl⟩
 obtain⟨l,s',hv,h1,h2⟩:=hv;simp only[Zhc,Zd6,hv,okB,getO];exact⟨trivial,h1,by omega,(Z8 s (n:Int)).1.length,by omega⟩
