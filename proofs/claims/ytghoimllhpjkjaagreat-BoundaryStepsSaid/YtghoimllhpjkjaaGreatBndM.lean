import Derived.Test.YtghoimllhpjkjaaGreatIsaQ
open Go.IntKind (u8 u16 i64)
open Go Go.S3 Go.Proofs Go.Proofs.Cells
set_option linter.unusedVariables false
set_option linter.unusedSimpArgs false
set_option maxRecDepth 100000
namespace Go.Proofs.YtghoimllhpjkjaaGreat
noncomputable section
theorem smCb {l:List Cell} (h:l.length<=1000000):smC l=true:=Zau (by have:=mst;omega)
theorem smGb {l:List ZM} (h:l.length<=1000000):smG l=true:=Zau (by have:=mst;omega)
def ZE (b:BRDT) (s:SYST) (i:INPT):SYST:=(s.1,s.2.1,(bif !b.2.2.2.2.2.1 then ZFs s.2.2.1 i.2.2.2.2.2.2.2.2.1 else s.2.2.1),s.2.2.2)
def Zcm (b:BRDT) (s:SYST) (i:INPT):LINT:=
 (i.1&&decide (ZhJ s>=ZTH b s.1.2.2.2.1),i.2.1||Zcq s.2.2.2.1,i.2.2.1,i.2.2.2.1,i.2.2.2.2.1,i.2.2.2.2.2.1,i.2.2.2.2.2.2.1,i.2.2.2.2.2.2.2.1,
  bif b.2.2.2.2.2.1 then andI .u8 i.2.2.2.2.2.2.2.2.1 1==1 else vInt s.2.2.1)
def busS (b:BRDT) (s:SYST) (i:INPT):SYST×Int:=
 let x:=s.1.2.2.2.1
 let q:=ZdB b (IntKind.wrap .u8 x.2.1)
 let d:=Zf7 b (IntKind.wrap .u8 x.2.1)
 bif i.2.2.1||(ZS s.1 !=3|| !ZbC x.1) then (s,0) else
 bif decide (x.1>=1)&&decide (x.1<=5) then (s,ZeH b.2.1 s.2.1 x.2.1) else
 bif x.1 !=6&&b.2.2.2.2.2.1 then (s,i.2.2.2.2.2.2.2.2.2) else
 bif x.1 !=6 then ((s.1,s.2.1,(vAck s.2.2.1).1,s.2.2.2),(vAck s.2.2.1).2) else
 bif q.2 then ((s.1,s.2.1,(ZTP s.2.2.1 q.1).1,s.2.2.2),(ZTP s.2.2.1 q.1).2) else
 bif d.2 then (s,ZMU s.2.2.2.1 d.1) else (s,i.2.2.2.2.2.2.2.2.2)
def Zgd (b:BRDT) (s:SYST) (x:TY):SYST:=
 let q:=ZdB b (IntKind.wrap .u8 x.2.1)
 let d:=Zf7 b (IntKind.wrap .u8 x.2.1)
 bif x.1 !=7 then (s.1,ZaO b.2.1 s.2.1 x.2.1 x.2.2.1,s.2.2) else
 (s.1,s.2.1,(bif q.2 then ZMM s.2.2.1 q.1 x.2.2.1 else s.2.2.1),(bif q.2 then s.2.2.2.1 else bif d.2 then ZAn s.2.2.2.1 d.1 x.2.2.1 else s.2.2.2.1),s.2.2.2.2.1,
  s.2.2.2.2.2++[(IntKind.wrap .u8 x.2.1,x.2.2.1)])
def stepP (p:PICT) (n:Int):PICT:=
 (p.1,p.2.1,p.2.2.1,p.2.2.2.1,p.2.2.2.2.1,p.2.2.2.2.2.1,p.2.2.2.2.2.2.1,p.2.2.2.2.2.2.2.1,p.2.2.2.2.2.2.2.2.1,p.2.2.2.2.2.2.2.2.2.1,p.2.2.2.2.2.2.2.2.2.2.1,p.2.2.2.2.2.2.2.2.2.2.2.1,
  p.2.2.2.2.2.2.2.2.2.2.2.2.1,p.2.2.2.2.2.2.2.2.2.2.2.2.2.1,p.2.2.2.2.2.2.2.2.2.2.2.2.2.2.1,p.2.2.2.2.2.2.2.2.2.2.2.2.2.2.2.1,p.2.2.2.2.2.2.2.2.2.2.2.2.2.2.2.2.1,n,p.2.2.2.2.2.2.2.2.2.2.2.2.2.2.2.2.2.2)
def ZSE (p:PINT):Bool:=p.2.2.2.2.2.2.2.2.2.2.2.2.2.2.2.1
def Zl1 (s:SYST) (i:INPT):Bool:= !i.2.2.1&&(ZS s.1==3&&Zfx s.1.2.2.2.1.1)
def Zic (b:BRDT) (s:SYST) (i:INPT):SYST:=
 let t:=ZE b s i
 let u:=busS b t i
 ((ZD u.1.1 (Zcm b t i) u.2),u.1.2.1,u.1.2.2.1,u.1.2.2.2.1,ZhJ t,u.1.2.2.2.2.2)
def Zd5 (b:BRDT) (s:SYST) (i:INPT):SYST:=bif Zl1 s i then Zgd b (Zic b s i) s.1.2.2.2.1 else Zic b s i
def pinS (b:BRDT) (s:SYST) (i:INPT):PINT:=Zuw (busS b (ZE b s i) i).1.1 (Zcm b (ZE b s i) i) (busS b (ZE b s i) i).2
def Zdn (b:BRDT) (s:SYST) (i:INPT):Bool:=ZSE (pinS b s i)&&Zcq (Zd5 b s i).2.2.2.1
def Zy6 (b:BRDT) (s:SYST) (i:INPT):SYST:=
 let w:=Zd5 b s i
 bif Zdn b s i then (w.1,ZaO b.2.1 w.2.1 w.2.2.2.1.1 w.2.2.2.1.2.1,w.2.2.1,(IntKind.wrap .u16 (w.2.2.2.1.1+1),w.2.2.2.1.2.1,IntKind.wrap .i64 (w.2.2.2.1.2.2-1)),w.2.2.2.2) else w
def ZxF (s:SYST) (r:Bool):SYST:=bif r then (s.1,s.2.1,stepP s.2.2.1 0,(s.2.2.2.1.1,s.2.2.2.1.2.1,0),s.2.2.2.2) else s
def Zaq (b:BRDT) (s:SYST) (i:INPT):SYST×PINT×LINT×Int×Cell×Bool:=
 (ZxF (Zy6 b s i) i.2.2.1,pinS b s i,Zcm b (ZE b s i) i,(busS b (ZE b s i) i).2,
  (bif Zdn b s i then ((Zd5 b s i).2.2.2.1.1,(Zd5 b s i).2.2.2.1.2.1) else (0,0)),Zdn b s i)
theorem ZTG (b:BRDT) (x:TY) (hg:smG b.2.1=true):ZE2 b x=true:=by
 unfold ZE2 ZE1;simp only[RT.val,hg,Yh,Ya];cases decide (x.1>=1)&&decide (x.1<=5)
 ·cases x.1==6||x.1==7<;>rfl
 ·rfl
theorem ZIO (b:BRDT) (s:SYST) (i:INPT) (hg:smG b.2.1=true):Zli b s i=true/\Zsi b s i=Zcm b s i:=by
 have hv:(Zig b s i).val=some (Zcm b s i):=by unfold Zig Zcm;simp only[RT.val,ZYL,ZTG b _ hg,Yh,Ya,YaM]
 exact⟨by simp only[Zli,hv];rfl,by simp only[Zsi,hv,getO]⟩
theorem ZYB (b:BRDT) (s:SYST) (i:INPT) (hg:smG b.2.1=true) (hc:smC s.2.1=true):ZTL b s i=true/\wBus b s i=busS b s i:=by
 have hv:(ZMF b s i).val=some (busS b s i):=by
  unfold ZMF busS;simp only[RT.val,ZYO,ZTO,ZMS,hg,hc,Zcg,Zbl,R.sel_eq,YW,Yh,Yf,Yj,Ya];cases i.2.2.1||(ZS s.1 !=3|| !ZbC s.1.2.2.2.1.1)
  ·cases decide (s.1.2.2.2.1.1>=1)&&decide (s.1.2.2.2.1.1<=5)
   ·cases s.1.2.2.2.1.1 !=6
    ·cases (ZdB b (IntKind.wrap .u8 s.1.2.2.2.1.2.1)).2
     ·cases (Zf7 b (IntKind.wrap .u8 s.1.2.2.2.1.2.1)).2<;>rfl
     ·rfl
    ·cases b.2.2.2.2.2.1<;>rfl
   ·rfl
  ·rfl
 exact⟨by simp only[ZTL,hv];rfl,by simp only[wBus,hv,getO]⟩
theorem ZMj (b:BRDT) (s:SYST) (x:TY) (hg:smG b.2.1=true) (hc:smC s.2.1=true) (ho:s.2.2.2.2.2.length<=1000000):Zsg b s x=true/\ZE0 b s x=Zgd b s x:=by
 have hms:=mst;have h1:Nat.ble (List.length s.2.2.2.2.2) most=true:=Zau (by omega);have h2:∀y:Int×Int,Nat.ble (List.length (s.2.2.2.2.2++[y])) most=true:=λy=>Zau (by simp;omega)
 have hv:(Zl4 b s x).val=some (Zgd b s x):=by
  unfold Zl4 Zgd;simp only[RT.val,ZMK,h1,h2,hg,hc,R.sel_eq,YW,Yh,Yf,Yj,Ya,List.nil_append];cases x.1 !=7
  ·rfl
  ·rfl
 exact⟨by simp only[Zsg,hv];rfl,by simp only[ZE0,hv,getO]⟩
theorem Zju (b:BRDT) (s:SYST) (i:INPT):(busS b s i).1.1=s.1/\(busS b s i).1.2.1=s.2.1/\(busS b s i).1.2.2.2=s.2.2.2:=by
 unfold busS;dsimp only;cases i.2.2.1||(ZS s.1 !=3|| !ZbC s.1.2.2.2.1.1)
 ·cases decide (s.1.2.2.2.1.1>=1)&&decide (s.1.2.2.2.1.1<=5)
  ·cases s.1.2.2.2.1.1 !=6
   ·cases (ZdB b (IntKind.wrap .u8 s.1.2.2.2.1.2.1)).2
    ·cases (Zf7 b (IntKind.wrap .u8 s.1.2.2.2.1.2.1)).2<;>exact⟨rfl,rfl,rfl⟩
    ·exact⟨rfl,rfl,rfl⟩
   ·cases b.2.2.2.2.2.1<;>exact⟨rfl,rfl,rfl⟩
  ·exact⟨rfl,rfl,rfl⟩
 ·exact⟨rfl,rfl,rfl⟩
theorem Zxp (b:BRDT) (s:SYST) (x:TY):(Zgd b s x).1=s.1/\(Zgd b s x).2.1.length<=s.2.1.length+1/\(Zgd b s x).2.2.2.2.2.length<=s.2.2.2.2.2.length+1:=by
 have:=Zf5 b.2.1 s.2.1 x.2.1 x.2.2.1;unfold Zgd;dsimp only;cases x.1 !=7
 ·exact⟨rfl,by simp only[Yb];omega,by simp only[Yb];simp⟩
 ·exact⟨rfl,by simp only[Ya];omega,by simp only[Ya];omega⟩
theorem Zwv (b:BRDT) (s:SYST) (i:INPT):(Zic b s i).2.1=s.2.1/\(Zic b s i).2.2.2.2.2=s.2.2.2.2.2:=by have h:=Zju b (ZE b s i) i;unfold Zic;simp only[h.1,h.2.1,h.2.2];exact⟨rfl,rfl⟩
theorem ZwK (b:BRDT) (s:SYST) (i:INPT):(Zd5 b s i).1=(Zic b s i).1/\(Zd5 b s i).2.1.length<=s.2.1.length+1/\(Zd5 b s i).2.2.2.2.2.length<=s.2.2.2.2.2.length+1:=by
 have h1:=Zwv b s i;have h2:=Zxp b (Zic b s i) s.1.2.2.2.1;rw[h1.1,h1.2] at h2;unfold Zd5;cases Zl1 s i
 ·exact⟨rfl,by simp only[Yb,h1.1];omega,by simp only[Yb,h1.2];omega⟩
 ·exact h2
theorem ZzZ (b:BRDT) (s:SYST) (i:INPT):(Zaq b s i).1.1=(Zic b s i).1/\(Zaq b s i).1.2.1.length<=s.2.1.length+2/\(Zaq b s i).1.2.2.2.2.2.length<=s.2.2.2.2.2.length+1:=by have h1:=ZwK b s i;have h2:=Zf5 b.2.1 (Zd5 b s i).2.1 (Zd5 b s i).2.2.2.1.1 (Zd5 b s i).2.2.2.1.2.1;unfold Zaq ZxF Zy6;dsimp only;cases Zdn b s i<;>cases i.2.2.1<;>simp only[Ya,Yb]<;>exact⟨h1.1,by omega,h1.2.2⟩
theorem ZMB (b:BRDT) (s:SYST) (i:INPT) (hg:smG b.2.1=true) (hc:s.2.1.length<=900000) (ho:s.2.2.2.2.2.length<=900000) (hk:s.1.2.2.1.length<=900000):
  Zso b s i=true/\ZFb b s i=Zaq b s i:=by
 have hms:=mst;have hv:(Zmd b s i).val=some (Zaq b s i):=by
  have hr:(s.1,s.2.1,(bif !b.2.2.2.2.2.1 then ZFs s.2.2.1 i.2.2.2.2.2.2.2.2.1 else s.2.2.1),s.2.2.2)=ZE b s i:=rfl;have h1:=ZIO b (ZE b s i) i hg;have h2:=ZYB b (ZE b s i) i hg (smCb (by show s.2.1.length<=_;omega));have h3:=Zju b (ZE b s i) i;have h4:ZOk (busS b (ZE b s i) i).1.1=true:=by rw[h3.1];exact ZmI.2 (by show s.1.2.2.1.length+1<=_;omega)
  have h5:=Zwv b s i;have h6:=ZMj b (Zic b s i) s.1.2.2.2.1 hg (smCb (by rw[h5.1];omega)) (by rw[h5.2];omega);have h7:=ZwK b s i
  have hcs:(ZD (busS b (ZE b s i) i).1.1 (Zcm b (ZE b s i) i) (busS b (ZE b s i) i).2,(busS b (ZE b s i) i).1.2.1,(busS b (ZE b s i) i).1.2.2.1,(busS b (ZE b s i) i).1.2.2.2.1,ZhJ (ZE b s i),
   (busS b (ZE b s i) i).1.2.2.2.2.2)=Zic b s i:=rfl
  have ht:∀d:QT7,Zio d=bif Zcq d then ((IntKind.wrap .u16 (d.1+1),d.2.1,IntKind.wrap .i64 (d.2.2-1)),(d.1,d.2.1),true) else ((0,0,0),(0,0),false):=λd=>by unfold Zio ZjJ;simp only[RT.val];cases Zcq d<;>rfl
  have h8:smC (Zgd b (Zic b s i) s.1.2.2.2.1).2.1=true:=smCb (by have:=(Zxp b (Zic b s i) s.1.2.2.2.1).2.1;rw[h5.1] at this;omega);have h9:smC (busS b (ZE b s i) i).1.2.1=true:=smCb (by rw[h3.2.1];show s.2.1.length<=_;omega);unfold Zmd;simp only[hr,RT.val,h1.1,h1.2,h2.1,h2.2,h4,clkX,hcs,h6.1,h6.2,ht,R.sel_eq,Yh,Ya];unfold Zaq ZxF Zy6 Zdn Zd5 Zl1 pinS ZSE;dsimp only;cases !i.2.2.1&&(ZS s.1==3&&Zfx s.1.2.2.2.1.1)
  ·simp only[Yb,h9,hg,YW,Yh,Ya];cases (Zuw (busS b (ZE b s i) i).1.1 (Zcm b (ZE b s i) i) (busS b (ZE b s i) i).2).2.2.2.2.2.2.2.2.2.2.2.2.2.2.2.1
   ·cases i.2.2.1<;>rfl
   ·have e:Zcq ((busS b (ZE b s i) i).1.2.2.2.1.1,(busS b (ZE b s i) i).1.2.2.2.1.2.1,(busS b (ZE b s i) i).1.2.2.2.1.2.2)=Zcq (Zic b s i).2.2.2.1:=rfl;rw[e];cases Zcq (Zic b s i).2.2.2.1<;>cases i.2.2.1<;>rfl
  ·simp only[Ya,h8,hg,YW,Yh];cases (Zuw (busS b (ZE b s i) i).1.1 (Zcm b (ZE b s i) i) (busS b (ZE b s i) i).2).2.2.2.2.2.2.2.2.2.2.2.2.2.2.2.1
   ·cases i.2.2.1<;>rfl
   ·cases Zcq (Zgd b (Zic b s i) s.1.2.2.2.1).2.2.2.1<;>cases i.2.2.1<;>rfl
 exact⟨by simp only[Zso,hv];rfl,by simp only[ZFb,hv,getO]⟩
def ZdE {α:Type} (l:List α) (f:α->α):List α:=match l.getLast? with
 |some y=>l.dropLast++[f y]
 |none=>[]
variable {α:Type}
theorem Za6 (l:List α) (y:α) (f:α->α):ZdE (l++[y]) f=l++[f y]:=by simp[ZdE]
def ZpA (Z9:TC) (l:List TC):TC:=l.getLastD Z9
theorem ZwL (l:List α) (y:α) (h:l.length<=1000000):IntKind.wrap .i64 (iN (l++[y]).length-1)=(l.length:Int):=by simp only[iN,Yd,List.length_cons,List.length_nil];rw[wrap_i64 _ (by omega) (by omega)];omega
theorem ZIo {r:R} (l:List r.den) (y:r.den):R.get r (l++[y]) (l.length:Int)=y:=by simp[R.get]
theorem ZFW (l:List α) (y z:α):setI (l++[y]) (l.length:Int) z=l++[z]:=by simp[setI]
theorem ZF1 (l:List α) (y:α):Ze (l.length:Int) (l++[y]).length=true:=ZC.2 ⟨by omega,by simp;omega⟩
def Zlc (t:Int):Int:=bif t==8 then 2 else bif t==9 then 3 else bif t==10 then 4 else 1
def cycN (c:CORT) (t:Int) (x:TY):TY:=bif t==8 then (0,0,0,0) else bif t==9 then (0,c.1.2.1.2.2.2.2.2.2.2.2.2,0,0) else bif t==10 then (0,0,0,0) else x
def ZVT (c:CORT):Bool:=c.1.2.2.1
def sodC (c:CORT):Bool:=c.1.2.2.2.2.2.2.2.2.2.2.2.2
def ZN6 (y:ITMT) (k:Int) (c:CORT):Bool:=y.1==k&&(y.2.2.2.2.1==ZVT c&&y.2.2.2.2.2==sodC c)
def Z0J (y:ITMT):ITMT:=(y.1,y.2.1,y.2.2.1,IntKind.wrap .i64 (y.2.2.2.1+1),y.2.2.2.2)
def ZzA (l:List ITMT) (k:Int) (c:CORT) (n:ITMT):List ITMT:=match l.getLast? with
 |some y=>bif ZN6 y k c then ZdE l Z0J else l++[n]
 |none=>l++[n]
def Zdu (l:List ITMT) (c:CORT) (x:TY) (t:Int):List ITMT:=
 bif Zlc t !=1 then ZzA l (Zlc t) c (Zlc t,cycN c t x,0,1,ZVT c,sodC c)
 else bif t==1 then l++[(1,cycN c t x,0,1,ZVT c,sodC c)]
 else bif t==7 then ZdE l (λy=>(y.1,cycN c t x,IntKind.wrap .i64 (y.2.2.1+1),y.2.2.2))
 else ZdE l (λy=>(y.1,cycN c t x,y.2.2.1,IntKind.wrap .i64 (y.2.2.2.1+1),y.2.2.2.2))
def ZwJ:TC:=(0,(0,0,0,0,0,0,0,(false,false,false,false,false,false,false),0,0),false,false,false,0,false,false,false,false,false,false,false)
def Zd4:LINT:=(false,false,false,false,false,false,false,false,false)
def rdS (c:CORT) (t d:Int):TY×List Int:=bif t !=3 then (c.2.2.2.1,c.2.2.1) else (Zbr c.1 c.2.2.2.1 d,c.2.2.1++[(Zbr c.1 c.2.2.2.1 d).2.2.1])
def finS (c:CORT) (l:LINT) (d:Int):TC×Bool:=
 bif l.2.2.1 then (ZwJ,false) else
 bif !Zgu c.2.2.2.2.1 (rdS c c.2.2.2.2.1 d).1 then (ZwJ,false) else
 bif (Zh (Zj c.1 l) c.2.1 (rdS c c.2.2.2.2.1 d).2).2 then (ZwJ,false) else (finX (Zj c.1 l) c.2.1 (rdS c c.2.2.2.2.1 d).2 l,true)
def ZcW (c:CORT) (t d:Int):List Int:=bif t==3 then c.2.2.1++[(Zab c t d).2.2.1] else c.2.2.1
def evE (ev:List EVTT) (c:CORT) (l:LINT) (d:Int) (cell:Cell) (moved:Bool):List EVTT:=
 let e1:=bif (finS c l d).2 then ev++[Zd6 (Zf6 c.2.1,c.2.1,ZcW c (ZS c) d,Zd4,false,false,false,false,0,0) (Zj c.1 l) l] else ev
 bif l.2.2.1 then (bif ZcG c then ev++[Zd6 (6,c.2.1,c.2.2.1,Zd4,false,false,false,false,0,0) c.1 l] else ev)++[Zd6 (4,0,[],Zd4,false,false,false,false,0,0) c.1 l]
 else bif moved then e1++[(5,0,[],Zd4,false,false,false,false,cell)] else e1
def evC (cp:List TC) (Z9:TC) (c:CORT) (after:CORT) (l:LINT) (d:Int) (moved:Bool):List TC:=
 let c1:=bif (finS c l d).2 then cp++[(finS c l d).1] else cp
 bif l.2.2.1 then (bif ZcG c then cp++[ZpA Z9 cp] else cp)++[after.1]
 else bif moved then c1++[ZpA Z9 cp] else c1
abbrev STT:=SYST×List PINT×List ITMT×List EVTT×List TC
def nowS (s:SYST) (i:INPT):Int:=bif i.2.2.1 then 10 else ZS s.1
def ZaC (b:BRDT) (Z9:TC) (st:STT) (i:INPT):STT:=
 let k:=Zaq b st.1 i
 (k.1,st.2.1++[k.2.1],Zdu st.2.2.1 st.1.1 (Zab st.1.1 (nowS st.1 i) k.2.2.2.1) (nowS st.1 i),
  evE st.2.2.2.1 st.1.1 k.2.2.1 k.2.2.2.1 k.2.2.2.2.1 k.2.2.2.2.2,evC st.2.2.2.2 Z9 st.1.1 k.1.1 k.2.2.1 k.2.2.2.1 k.2.2.2.2.2)
structure RunOk (b:BRDT) (st:STT) (n:Nat):Prop where
 g:smG b.2.1=true
 m:st.1.2.1.length<=100000+2*n
 o:st.1.2.2.2.2.2.length<=n
 k:st.1.1.2.2.1.length<=n
 t:st.2.1.length<=n
 it:st.2.2.1.length<=n
 ev:st.2.2.2.1.length<=2*n
 cp:st.2.2.2.2.length<=2*n
 ne:st.2.2.1=[]->ZS st.1.1=1
theorem ZUz (c:CORT) (t d:Int) (h:c.2.2.1.length<=1000000):Ze7 c t d=true/\ZhZ c t d=rdS c t d:=by
 have hms:=mst;have h1:Nat.ble (List.length c.2.2.1) most=true:=Zau (by omega);have h2:∀y:Int,Nat.ble (List.length (c.2.2.1++[y])) most=true:=λy=>Zau (by simp;omega)
 have hv:(ZiF c t d).val=some (rdS c t d):=by unfold ZiF rdS Zbr;simp only[RT.val,h1,h2,List.nil_append,Yh,Ya];cases t !=3<;>rfl
 exact⟨by simp only[Ze7,hv];rfl,by simp only[ZhZ,hv,getO]⟩
theorem ZYz (c:CORT) (l:LINT) (d:Int) (h:c.2.2.1.length<=1000000):ZgW c l d=true/\Zih c l d=finS c l d:=by
 have h1:=ZUz c c.2.2.2.2.1 d h;have hv:(ZeX c l d).val=some (finS c l d):=by
  unfold ZeX finS;simp only[RT.val,h1.1,h1.2,Ya];cases l.2.2.1
  ·cases Zgu c.2.2.2.2.1 (rdS c c.2.2.2.2.1 d).1
   ·rfl
   ·cases (Zh (Zj c.1 l) c.2.1 (rdS c c.2.2.2.2.1 d).2).2<;>rfl
  ·rfl
 exact⟨by simp only[ZgW,hv];rfl,by simp only[Zih,hv,getO]⟩
theorem ZME (c:CORT) (t d:Int) (h:c.2.2.1.length<=1000000):Zsq c t d=true/\ZFf c t d=ZcW c t d:=by
 have hms:=mst;have h1:Nat.ble (List.length c.2.2.1) most=true:=Zau (by omega);have h2:∀y:Int,Nat.ble (List.length (c.2.2.1++[y])) most=true:=λy=>Zau (by simp;omega)
 have hv:(Zmf c t d).val=some (ZcW c t d):=by unfold Zmf ZcW;simp only[RT.val,h1,h2,List.nil_append,Yh,Ya]
 exact⟨by simp only[Zsq,hv];rfl,by simp only[ZFf,hv,getO]⟩
theorem ZIc (Z9:TC) (l:List TC) (h:l.length<=1000000):
  (!decide (iN l.length>0)||Ze (IntKind.wrap .i64 (iN l.length-1)) l.length)=true/\R.sel Zt (decide (iN l.length>0)) (R.get Zt l (IntKind.wrap .i64 (iN l.length-1))) Z9=ZpA Z9 l:=by
 rcases Y7 l with rfl|⟨l',y,rfl⟩
 ·exact⟨rfl,by rw[R.sel_eq];rfl⟩
 ·simp only[Y8,Yd,List.length_singleton] at h|-;have w:=ZwL l' y (by omega);have d:decide (iN (l'.length+1)>0)=true:=Yq (by simp only[iN];omega);simp only[Yd,List.length_singleton] at w;rw[w,d,R.sel_eq];have:=ZF1 l' y;simp only[Yd,List.length_singleton] at this;rw[this];exact⟨rfl,by simp only[Ya,ZpA];rw[show R.get Zt (l'++[y]) (l'.length:Int)=y from ZIo (r:=Zt) l' y];simp⟩
theorem ZOh (b:BRDT) (l:List INPT) (i:Nat) (r0:RUNT) (s0:SYST) (Z9:TC) (st:STT) (n:Nat) (h:RunOk b st n) (hi:i<l.length) (hl:l.length<=100000) (hn:n<=200000):
  (Zfp (l,(l.length:Int),(i:Int),b,r0,st.1,s0,Z9,st.2.1,st.2.2.1,st.2.2.2.1,st.2.2.2.2,())).val=
   some (Go1.cont (l,(l.length:Int),((i+1:Nat):Int),b,r0,(ZaC b Z9 st (R.get Zds l (i:Int))).1,s0,Z9,(ZaC b Z9 st (R.get Zds l (i:Int))).2.1,(ZaC b Z9 st (R.get Zds l (i:Int))).2.2.1,
    (ZaC b Z9 st (R.get Zds l (i:Int))).2.2.2.1,(ZaC b Z9 st (R.get Zds l (i:Int))).2.2.2.2,())):=by
 have hms:=mst;obtain⟨s,tr,it,ev,cp⟩:=st;obtain⟨g,m,o,k,t,hit,hev,hcp,ne⟩:=h;simp only at g m o k t hit hev hcp ne;have d:decide ((i:Int)<(l.length:Int))=true:=Yq (by omega);have hin:Ze (i:Int) l.length=true:=ZC.2 ⟨by omega,by omega⟩;have w:IntKind.wrap .i64 ((i:Int)+1)=((i+1:Nat):Int):=by rw[wrap_i64 _ (by omega) (by omega)];omega
 obtain⟨q,hq⟩:∃q,R.get Zds l (i:Int)=q:=⟨_,rfl⟩;rw[hq];have hc:=ZMB b s q g (by omega) (by omega) (by omega);have hf:=ZYz s.1 (Zaq b s q).2.2.1 (Zaq b s q).2.2.2.1 (by omega);have hb:=ZME s.1 (ZS s.1) (Zaq b s q).2.2.2.1 (by omega);have hlc:=ZIc Z9 cp (by omega);have htr:∀x:PINT,Nat.ble (tr++[x]).length most=true:=λx=>Zau (by simp;omega)
 have he1:∀x:EVTT,Nat.ble (ev++[x]).length most=true:=λx=>Zau (by simp;omega)
 have he2:∀(c:Bool) (x y:EVTT),Nat.ble ((bif c then ev++[x] else ev)++[y]).length most=true:=λc x y=>Zau (by cases c<;>simp<;>omega)
 have hc1:∀x:TC,Nat.ble (cp++[x]).length most=true:=λx=>Zau (by simp;omega)
 have hc2:∀(c:Bool) (x y:TC),Nat.ble ((bif c then cp++[x] else cp)++[y]).length most=true:=λc x y=>Zau (by cases c<;>simp<;>omega)
 have hg:Nat.ble (List.length s.1.2.2.1) most=true:=Zau (by omega);obtain⟨T,hT⟩:∃T,(bif q.2.2.1 then (10:Int) else ZS s.1)=T:=⟨_,rfl⟩;have hT':nowS s q=T:=hT;rcases Y7 it with rfl|⟨it',y,rfl⟩
 ·have hTT:T=1\/T=10:=by
   rw[<-hT,ne rfl];cases q.2.2.1
   ·exact .inl rfl
   ·exact .inr rfl
  have w0:IntKind.wrap .i64 (iN ([]:List ITMT).length-1)= -1:=by decide
  have w1:decide ((-1:Int)>=0)=false:=by decide
  have w2:Ze (-1) ([]:List ITMT).length=false:=by decide
  have hi1:∀x:ITMT,Nat.ble [x].length most=true:=λx=>Zau (by simp;omega)
  unfold Zfp;rcases hTT with rfl|rfl
  ·have e1:((1:Int)==1)=true:=rfl;have e8:((1:Int)==8)=false:=rfl;have e9:((1:Int)==9)=false:=rfl;have e10:((1:Int)==10)=false:=rfl;have e7:((1:Int)==7)=false:=rfl;have n1:((1:Int) !=1)=false:=rfl;simp only[RT.val,d,hin,w,hq,hT,hc.1,hc.2,hf.1,hf.2,hb.1,hb.2,hlc.1,hlc.2,htr,hi1,he1,he2,hc1,hc2,hg,w0,w1,w2,e1,e8,e9,e10,e7,n1,List.nil_append,Zcg,Zbl,Yh,Ys,Yf,Yj,Yx,Yk,Yag,YZ,YX,Y6,Ya,Yb];unfold ZaC;rw[hT'];simp only[Zdu,Zlc,cycN,e1,e8,e9,e10,e7,n1,Ya,Yb,List.nil_append];rfl
  ·have e1:((10:Int)==1)=false:=rfl;have e8:((10:Int)==8)=false:=rfl;have e9:((10:Int)==9)=false:=rfl;have e10:((10:Int)==10)=true:=rfl;have e7:((10:Int)==7)=false:=rfl;have n1:((4:Int) !=1)=true:=rfl;simp only[RT.val,d,hin,w,hq,hT,hc.1,hc.2,hf.1,hf.2,hb.1,hb.2,hlc.1,hlc.2,htr,hi1,he1,he2,hc1,hc2,hg,w0,w1,w2,e1,e8,e9,e10,e7,n1,List.nil_append,Zcg,Zbl,Yh,Ys,Yf,Yj,Yx,Yk,Yag,YZ,YX,Y6,Ya,Yb];unfold ZaC;rw[hT'];simp only[Zdu,Zlc,cycN,ZzA,List.getLast?_nil,e1,e8,e9,e10,e7,n1,Ya,Yb,List.nil_append];rfl
 ·simp only[Y8] at hit|-;have hlen:it'.length<=1000000:=by simp at hit;omega
  have w0:=ZwL it' y hlen;have w1:decide ((it'.length:Int)>=0)=true:=Yq (by omega);have w2:=λz:ITMT=>ZF1 it' z
  have w3:=λz:ITMT=>ZIo (r:=ZAY) it' z
  have w4:=λz:ITMT=>ZFW it' y z
  have w5:=λz z2:ITMT=>ZFW it' z z2
  have hi1:∀x:ITMT,Nat.ble (it'++[y]++[x]).length most=true:=λx=>Zau (by simp at hit|-;omega)
  have hj:∀f:ITMT->ITMT,ZdE (it'++[y]) f=it'++[f y]:=Za6 it' y;unfold Zfp;simp only[RT.val,d,hin,w,hq,hT,hc.1,hc.2,hf.1,hf.2,hb.1,hb.2,hlc.1,hlc.2,htr,hi1,he1,he2,hc1,hc2,hg,w0,w1,w2,w3,w4,w5,List.nil_append,Zcg,Zbl,Yh,Ys,Yf,Yj,Yx,Yk,Yag,YZ,YX,Y6,Ya,Yb];unfold ZaC;rw[hT'];simp only[Zdu,Zlc,cycN,ZzA,List.getLast?_concat,hj,ZN6,Z0J];cases T==8<;>cases T==9<;>cases T==10<;>rfl
theorem ZLY (c:CORT) (l:LINT) (d:Int):(ZD c l d).2.2.1.length<=c.2.2.1.length+1:=by
 have he:∀(c:TC) (s:Int) (g:List Int) (h:Bool) (l:LINT),(endX c s g h l).2.2.1.length<=g.length:=by
  intro c s g h l;unfold endX;cases (Zh c s g).2
  ·exact Yu _
  ·exact Ye _
 unfold ZD;dsimp only;cases l.2.2.1
 ·cases Zao c.2.2.2.2.1==1
  ·cases Zao c.2.2.2.2.1==2||Zao c.2.2.2.2.1==7
   ·cases Zao c.2.2.2.2.1==8
    ·cases Zao c.2.2.2.2.1==9
     ·cases Zao c.2.2.2.2.1==3
      ·cases decide (Zao c.2.2.2.2.1<c.2.2.2.1.2.2.2)&& !(Zao c.2.2.2.2.1==6)
       ·exact YT (he _ _ _ _ _) (YaD _)
       ·exact YaD _
      ·cases le3 (Zbr (Zj c.1 l) c.2.2.2.1 d).2.2.2
       ·simp only[Ya,Yb,Yd,List.length_singleton];omega
       ·exact YT (he _ _ _ _ _) (by simp)
     ·cases ZdN (Zj c.1 l) l==0
      ·exact Yu _
      ·exact YaD _
    ·exact YaD _
   ·cases l.1|| !Z1 c.2.2.2.1.1<;>exact YaD _
  ·exact YaD _
 ·exact Yu _
theorem ZkC (b:BRDT) (s:SYST) (i:INPT):(Zaq b s i).1.1=ZD s.1 (Zcm b (ZE b s i) i) (busS b (ZE b s i) i).2:=by rw[(ZzZ b s i).1];show ZD (busS b (ZE b s i) i).1.1 _ _=_;rw[(Zju b (ZE b s i) i).1];rfl
theorem ZLq (l:List α) (f:α->α):(ZdE l f).length=l.length:=by
 rcases Y7 l with rfl|⟨l',y,rfl⟩
 ·rfl
 ·rw[Y8,Za6];simp
theorem ZSp (l:List ITMT) (k:Int) (c:CORT) (n:ITMT):(ZzA l k c n).length<=l.length+1/\ZzA l k c n≠[]:=by
 unfold ZzA;rcases Y7 l with rfl|⟨l',y,rfl⟩
 ·exact⟨by simp,by simp⟩
 ·rw[Y8,List.getLast?_concat];dsimp only;cases ZN6 y k c
  ·exact⟨by simp,by simp⟩
  ·simp only[Ya];rw[Za6];exact⟨by simp,by simp⟩
theorem ZSq (l:List ITMT) (c:CORT) (x:TY) (t:Int) (h:l=[]->t=1\/t=10):(Zdu l c x t).length<=l.length+1/\Zdu l c x t≠[]:=by
 have hj:=ZSp l (Zlc t) c (Zlc t,cycN c t x,0,1,ZVT c,sodC c);have ho:∀f:ITMT->ITMT,l≠[]->(ZdE l f).length<=l.length+1/\ZdE l f≠[]:=λf hl=>by have:=ZLq l f;refine⟨by omega,λe=>hl ?_⟩;rw[e] at this;exact YU.1 this.symm
 unfold Zdu;cases hk:Zlc t !=1
 ·cases h1:t==1
  ·have hl:l≠[]:=λe=>by
    rcases h e with rfl|rfl
    ·simp at h1
    ·simp[Zlc] at hk
   cases t==7
   ·exact ho _ hl
   ·exact ho _ hl
  ·exact⟨by simp,by simp⟩
 ·exact hj
theorem Z0E (s:SYST) (i:INPT) (h:ZS s.1=1):nowS s i=1\/nowS s i=10:=by
 unfold nowS;rw[h];cases i.2.2.1
 ·exact .inl rfl
 ·exact .inr rfl
theorem Z1e (ev:List EVTT) (c:CORT) (l:LINT) (d:Int) (cell:Cell) (moved:Bool):(evE ev c l d cell moved).length<=ev.length+2:=by
 unfold evE;dsimp only;cases l.2.2.1
 ·cases (finS c l d).2<;>cases moved<;>simp
 ·cases ZcG c<;>simp
theorem Z1f (cp:List TC) (Z9:TC) (c after:CORT) (l:LINT) (d:Int) (moved:Bool):(evC cp Z9 c after l d moved).length<=cp.length+2:=by
 unfold evC;dsimp only;cases l.2.2.1
 ·cases (finS c l d).2<;>cases moved<;>simp
 ·cases ZcG c<;>simp
theorem ZFY (b:BRDT) (Z9:TC) (st:STT) (i:INPT) (n:Nat) (h:RunOk b st n):RunOk b (ZaC b Z9 st i) (n+1):=by
 have hc:=ZzZ b st.1 i;have hi:=ZSq st.2.2.1 st.1.1 (Zab st.1.1 (nowS st.1 i) (Zaq b st.1 i).2.2.2.1) (nowS st.1 i) (λe=>Z0E st.1 i (h.ne e));refine⟨h.g,?_,?_,?_,?_,?_,?_,?_,?_⟩
 ·have:=h.m;show (Zaq b st.1 i).1.2.1.length<=_;omega
 ·have:=h.o;show (Zaq b st.1 i).1.2.2.2.2.2.length<=_;omega
 ·have:=h.k;show (Zaq b st.1 i).1.1.2.2.1.length<=_;rw[ZkC];have:=ZLY st.1.1 (Zcm b (ZE b st.1 i) i) (busS b (ZE b st.1 i) i).2;omega
 ·have:=h.t;show (st.2.1++[_]).length<=_;simp;omega
 ·have:=h.it;exact YT hi.1 (by omega)
 ·have:=h.ev;exact YT (Z1e _ _ _ _ _ _) (by omega)
 ·have:=h.cp;exact YT (Z1f _ _ _ _ _ _ _) (by omega)
 ·intro e;exact absurd e hi.2
def Za0 (b:BRDT) (Z9:TC) (st:STT) (l:List INPT):STT:=l.foldl (ZaC b Z9) st
theorem Zwm (b:BRDT) (Z9:TC):∀(l:List INPT) (st:STT) (n:Nat),RunOk b st n->RunOk b (Za0 b Z9 st l) (n+l.length)
 |[],st,n,h=>h
 |i::l,st,n,h=>by have:=Zwm b Z9 l (ZaC b Z9 st i) (n+1) (ZFY b Z9 st i n h);rw[show n+(i::l).length=n+1+l.length by simp;omega];exact this
theorem ZNR (l:List α) (d:α) (i:Nat) (h:i<l.length):l.take (i+1)=l.take i++[l.getD i d]:=by rw[Yas,Yr,Yi h];rfl
theorem ZUj (b:BRDT) (l:List INPT) (r0:RUNT) (s0:SYST) (Z9:TC) (st:STT) (h:RunOk b st 0) (hl:l.length<=70000):
  runF false Zfp (λ_=>1000000000000) (l,(l.length:Int),0,b,r0,st.1,s0,Z9,st.2.1,st.2.2.1,st.2.2.2.1,st.2.2.2.2,())=
   some (false,(l,(l.length:Int),(l.length:Int),b,r0,(Za0 b Z9 st l).1,s0,Z9,(Za0 b Z9 st l).2.1,(Za0 b Z9 st l).2.2.1,(Za0 b Z9 st l).2.2.2.1,(Za0 b Z9 st l).2.2.2.2,())):=by
 obtain⟨r,hr,h1⟩:=ZH (fl:=false) (t:=Zfp) (fuel:=λ_=>1000000000000)
  (λa=>∃i:Nat,i<=l.length/\a=(l,(l.length:Int),(i:Int),b,r0,(Za0 b Z9 st (l.take i)).1,s0,Z9,(Za0 b Z9 st (l.take i)).2.1,(Za0 b Z9 st (l.take i)).2.2.1,(Za0 b Z9 st (l.take i)).2.2.2.1,(Za0 b Z9 st (l.take i)).2.2.2.2,()))
  (λa=>Int.toNat (a.2.1-a.2.2.1)) (λr=>r=(false,(l,(l.length:Int),(l.length:Int),b,r0,(Za0 b Z9 st l).1,s0,Z9,(Za0 b Z9 st l).2.1,(Za0 b Z9 st l).2.2.1,(Za0 b Z9 st l).2.2.2.1,(Za0 b Z9 st l).2.2.2.2,())))
  (by
   rintro a ⟨i,hi,rfl⟩;by_cases hlt:i<l.length
   ·left;have hk:=Zwm b Z9 (l.take i) st 0 h;have hv:=ZOh b l i r0 s0 Z9 (Za0 b Z9 st (l.take i)) _ hk hlt (by omega) (by simp;omega);refine⟨_,hv,⟨i+1,hlt,?_⟩,by simp only;omega⟩;have e:Za0 b Z9 st (l.take (i+1))=ZaC b Z9 (Za0 b Z9 st (l.take i)) (R.get Zds l (i:Int)):=by rw[ZNR l Zds.Df i hlt];simp only[Za0,Yat,List.foldl_cons,List.foldl_nil];rfl
    rw[e]
   ·right;left;have e:i=l.length:=by omega
    subst e;have d:decide ((l.length:Int)<(l.length:Int))=false:=Yv (by omega);rw[YaR]
    exact⟨_,by simp only[Zfp,RT.val,d,Yb],rfl⟩)
  (l,(l.length:Int),0,b,r0,st.1,s0,Z9,st.2.1,st.2.2.1,st.2.2.2.1,st.2.2.2.2,()) ⟨0,Yu _,rfl⟩ (by simp only;omega)
 rw[h1] at hr;exact hr
def ZbD (b:BRDT):STT:=((wNew b).1,[],[],[],[])
def Z3 (b:BRDT):TC:=(wNew b).1.1.1
def ZAa:SYST:=((ZwJ,0,[],(0,0,0,0),0,false),[],(0,false,false,false,false,0,0,false,false,false,false,false,0,0,0,0,0,0,0,false),(0,0,0),0,[])
theorem ZwP (b:BRDT) (hg:smG b.2.1=true) (hm:smC b.2.2.2.2.2.2=true):Zse b=true:=by
 unfold Zse ZjG;simp only[RT.val,hg,hm,Yh,Ya];cases b.1 !=1&&b.1 !=2
 ·cases Zd8 b.2.1 !=0
  ·cases decide (b.2.2.1<0)||(decide (b.2.2.1>100)|| !vldB b.2.2.2.2.2.2)<;>rfl
  ·rfl
 ·rfl
def newS (b:BRDT):SYST:=((((newX b.1).1.1,(0,0,0,0,0,0,0,(false,false,false,false,false,false,false),0,0),false,false,false,(newX b.1).1.2.2.2.2.2.1,false,false,false,false,false,false,false),0,[],(1,0,0,4),1,false),
 normX b.2.2.2.2.2.2,(0,false,false,false,false,0,0,false,false,false,false,false,0,0,0,0,7,0,0,false),(0,0,0),0,[])
theorem Zsh (b:BRDT) (hg:smG b.2.1=true) (hm:b.2.2.2.2.2.2.length<=100000):ZTE b=true/\(wNew b).2=ZcQ b/\((wNew b).2=0->RunOk b (ZbD b) 0/\(wNew b).1.2.1=normX b.2.2.2.2.2.2):=by
 have hc:=smCb (l:=b.2.2.2.2.2.2) (by omega);have hv:(ZAe b).val=some (bif ZcQ b !=0 then (ZAa,ZcQ b) else ((newS b),0)):=by unfold ZAe;simp only[RT.val,ZwP b hg hc,hc,Ya];cases ZcQ b !=0<;>rfl
 refine⟨by simp only[ZTE,hv];rfl,?_,?_⟩
 ·simp only[wNew,hv,getO];cases hx:ZcQ b !=0
  ·simp at hx;exact hx.symm
  ·rfl
 ·intro h0;have hx:(ZcQ b !=0)=false:=by
   cases hx:ZcQ b !=0
   ·rfl
   ·simp only[wNew,hv,getO,hx,Ya] at h0;rw[h0] at hx;simp at hx
  have e:wNew b=((newS b),0):=by simp only[wNew,hv,getO,hx,Yb]
  have hn:=ZbU b.2.2.2.2.2.2;unfold ZbD;rw[e];exact⟨⟨hg,by show (normX b.2.2.2.2.2.2).length<=_;omega,Ye _,Ye _,Ye _,Ye _,Ye _,Ye _,λ_=>rfl⟩,rfl⟩
def endS (Z9:TC) (st:STT):RUNT:=
 (st.2.1,st.2.2.1,bif ZcG st.1.1 then st.2.2.2.1++[(7,st.1.1.2.1,st.1.1.2.2.1,Zd4,false,false,false,false,0,0)] else st.2.2.2.1,bif ZcG st.1.1 then st.2.2.2.2++[ZpA Z9 st.2.2.2.2] else st.2.2.2.2,st.1)
def Zgh (b:BRDT) (l:List INPT):RUNT×Int:=bif (wNew b).2 !=0 then (([],[],[],[],ZAa),(wNew b).2) else (endS (Z3 b) (Za0 b (Z3 b) (ZbD b) l),0)
theorem ZYw (b:BRDT) (l:List Int) (hg:smG b.2.1=true) (hm:b.2.2.2.2.2.2.length<=100000) (hl:l.length<=4000):ZTD b l=true/\wRun b l=Zgh b (Zbg l):=by
 have hms:=mst;have hd:=Zqz l hl;have hn:=Zsh b hg hm;have hv:(ZMl b l).val=some (Zgh b (Zbg l)):=by
  unfold ZMl Zgh;cases hx:(wNew b).2 !=0
  ·have h0:(wNew b).2=0:=by simpa using hx
   have hi:=(hn.2.2 h0).1;have hf:=Zwm b (Z3 b) (Zbg l) (ZbD b) 0 hi;have hr:=ZUj b (Zbg l) ([],[],[],[],ZAa) ZAa (Z3 b) (ZbD b) hi (by omega);have hr':runF false Zfp (λ_=>1000000000000) (Zbg l,iN (Zbg l).length,0,b,([],[],[],[],((0,(0,0,0,0,0,0,0,(false,false,false,false,false,false,false),0,0),false,false,false,0,false,false,false,false,false,false,false),0,[],(0,0,0,0),0,false),[],(0,false,false,false,false,0,0,false,false,false,false,false,0,0,0,0,0,0,0,false),(0,0,0),0,[]),(wNew b).1,(((0,(0,0,0,0,0,0,0,(false,false,false,false,false,false,false),0,0),false,false,false,0,false,false,false,false,false,false,false),0,[],(0,0,0,0),0,false),[],(0,false,false,false,false,0,0,false,false,false,false,false,0,0,0,0,0,0,0,false),(0,0,0),0,[]),(wNew b).1.1.1,[],[],[],[],())=some (false,(Zbg l,((Zbg l).length:Int),((Zbg l).length:Int),b,([],[],[],[],ZAa),(Za0 b (Z3 b) (ZbD b) (Zbg l)).1,ZAa,Z3 b,(Za0 b (Z3 b) (ZbD b) (Zbg l)).2.1,(Za0 b (Z3 b) (ZbD b) (Zbg l)).2.2.1,(Za0 b (Z3 b) (ZbD b) (Zbg l)).2.2.2.1,(Za0 b (Z3 b) (ZbD b) (Zbg l)).2.2.2.2,())):=hr;simp only[RT.val,hn.1,hd.1,hr',hx,okB,getO,Ya,Yb];obtain⟨st,hst⟩:∃st,Za0 b (Z3 b) (ZbD b) (Zbg l)=st:=⟨_,rfl⟩;rw[hst] at hf|-;have hk:=hf.k;have he:=hf.ev;have hc:=hf.cp;have hdl:=hd.2;have hlc:=ZIc (Z3 b) st.2.2.2.2 (by omega);have b1:Nat.ble (List.length st.1.1.2.2.1) most=true:=Zau (by omega);have b2:∀x:EVTT,Nat.ble (List.length (st.2.2.2.1++[x])) most=true:=λx=>Zau (by simp;omega)
   have b3:∀x:TC,Nat.ble (List.length (st.2.2.2.2++[x])) most=true:=λx=>Zau (by simp;omega)
   simp only[hlc.1,hlc.2,b1,b2,b3,List.nil_append,Yh,Yf,Yj,Ya];unfold endS;cases ZcG st.1.1<;>rfl
  ·simp only[RT.val,hn.1,hx,Ya];rfl
 exact⟨by simp only[ZTD,hv];rfl,by simp only[wRun,hv,getO]⟩
end
end Go.Proofs.YtghoimllhpjkjaaGreat
open Go.Proofs.Tryz (prog)
open Go Go.S3 Go.Proofs
namespace Go.Proofs.YtghoimllhpjkjaaGreat
noncomputable section
abbrev ZwE:List Sh:=[Sh.agg Zt,Sh.agg Zbb]
abbrev ZwF:Rs:=Rs.one (Sh.agg Zt)
def ZET (c:TC) (e:EVTT):RT TC:=
 .br (bif e.1==1 then e.1==1 else bif e.1==2 then e.1==2 else e.1==3) (.Lf (finX ((Zi c e.2.1).1,(Zi c e.2.1).2.1,(Zi c e.2.1).2.2.1,(Zi c e.2.1).2.2.2.1,(Zi c e.2.1).2.2.2.2.1,(Zi c e.2.1).2.2.2.2.2.1,e.2.2.2.2.2.1,e.2.2.2.2.1,e.2.2.2.2.2.2.2.1,e.2.2.2.2.2.2.1,(Zi c e.2.1).2.2.2.2.2.2.2.2.2.2) e.2.1 e.2.2.1 e.2.2.2.1)) (.br (e.1==4) (.Lf (((ZN c).1,((ZN c).2.1.1,(ZN c).2.1.2.1,(ZN c).2.1.2.2.1,(ZN c).2.1.2.2.2.1,(ZN c).2.1.2.2.2.2.1,(ZN c).2.1.2.2.2.2.2.1,(ZN c).2.1.2.2.2.2.2.2.1,(ZN c).2.1.2.2.2.2.2.2.2.1,(ZN c).2.1.2.2.2.2.2.2.2.2.1,0),false,false,false,(ZN c).2.2.2.2.2.1,false,false,false,false,false,false,false))) (.Lf (c)))
def ZIL (c:TC) (e:EVTT):TC:=(ZET c e).val
def ZEU:En:=Zg ZwE ZwF (λ_=>none) (λa=>ZIL a.1 a.2)
theorem Zqf:Za prog 48 ZEU:=
 pureQ 34359738527 [(77,ZHk),(110,Zem),(111,ZRn)] [] ZwE ZwF ⟨ZKu,Zel,ZDD,Tv⟩ Tryz.func48 Tryz.call48 trivial (t:=λa=>ZET a.1 a.2)
def Za5:En:=.tree (ZO (envX prog [] [] 7 8) Tryz.f112)
theorem ZbK:Za prog 112 Za5:=Zaf (P:=prog) (n:=7) (k:=8) (l:=[]) (ol:=[]) trivial Tryz.func112 rfl (by kernel_rfl) Tryz.call112 trivial
abbrev Zqc:List Sh:=[Sh.agg Zt,Sh.agg Zbb]
abbrev ZjE:Rs:=Rs.one (Sh.one (R.sl (RY)))
def ZL8:LS:={n:=67,Sl:=[(2,.fix (A.loc 0 0)),(3,.fix (A.loc 1 0)),(5,.tip 0),(23,.code (Sh.one (R.sl (R.int u8)))),(24,.code (Sh.one (R.int i64))),(25,.code (Sh.one (R.int i64)))],Bx:=[[.many Zt],[.many Zbb]],Sg:=[⟨(RY),41,true⟩]}
def Zd2 (a:List Int×Int×Int×TC×EVTT×List TY×PUnit):RT (Option (Go1 (List Int×Int×Int×TC×EVTT×List TY×PUnit))):=
 let x1:=decide (0<=0)&&decide (0<=a.2.2.1)&&(decide (a.2.2.1=0)||decide (a.2.2.1<=iN (List.length a.2.2.2.2.1.2.2.1)))
 let x2:=Zh a.2.2.2.1 a.2.2.2.2.1.2.1 (subL a.2.2.2.2.1.2.2.1 0 a.2.2.1)
 let x3:= !x2.2
 let x4:=x2.1
 let x5:=x4.1
 let x6:=x4.2
 let x7:=x6.2
 let x8:List TY:=a.2.2.2.2.2.1++[(x5,x6.1,bif ZbC x5 then R.get (R.int u8) a.1 a.2.2.1 else x7.1,bif x5==1||x5==8 then Ze8 a.2.2.2.1.1 (R.get (R.int u8) a.1 a.2.2.1) else x7.2)]
 .br (decide (a.2.2.1<a.2.1)) (.br (!Ze a.2.2.1 (List.length a.1)||(!x1||(x3||Nat.ble (List.length x8) most))) (.br (!Ze a.2.2.1 (List.length a.1)||x1) (.br (Ze a.2.2.1 (List.length a.1)) (.br (x3) (.Lf (some (Go1.brk (a.1,a.2.1,a.2.2.1,a.2.2.2.1,a.2.2.2.2.1,a.2.2.2.2.2.1,PUnit.unit)))) (.Lf (some (Go1.cont (a.1,a.2.1,i64.wrap (a.2.2.1+1),a.2.2.2.1,a.2.2.2.2.1,x8,PUnit.unit))))) (.Lf none)) (.Lf none)) (.Lf none)) (.Lf (some (Go1.brk (a.1,a.2.1,a.2.2.1,a.2.2.2.1,a.2.2.2.2.1,a.2.2.2.2.2.1,PUnit.unit))))
def Zr8:Ora:=Za2 true ZL8 Zd2 (λa=>1000000000000)
theorem Zz5:ZaH (envX prog [(110,Zem),(113,ZrD),(114,ZuK),(115,Zu6)] [] 5119 8) (.block 1 (.loop (Z7 Tryz.f51.body 1))) Zr8:=
 loopP ⟨Zel,ZlJ,ZrC,ZrF,Tv⟩
def ZjD (c:TC) (e:EVTT):RT (Option (List TY)):=
 let x1:List Int×Int×Int×TC×EVTT×List TY×PUnit:=(e.2.2.1,iN (List.length e.2.2.1),0,Zi c e.2.1,e,[],())
 let x2:=runF true Zd2 (λa=>1000000000000) x1
 let x3:=getO (false,x1) x2
 .br (bif e.1==1 then e.1==1 else bif e.1==2 then e.1==2 else bif e.1==3 then e.1==3 else bif e.1==6 then e.1==6 else e.1==7) (.br (okB x2) (.br x3.1 (.Lf none) (.Lf (some x3.2.2.2.2.2.2.1))) (.Lf none)) (.Lf (some ([])))
def ZES (c:TC) (e:EVTT):List TY:=getO ZjE.Df (ZjD c e).val
def ZwD (c:TC) (e:EVTT):Bool:=okB (ZjD c e).val
def ZWw:En:=Zg Zqc ZjE (λa=>some (ZwD a.1 a.2)) (λa=>ZES a.1 a.2)
theorem ZL7:Za prog 51 ZWw:=
 pureP 5119 [(110,Zem),(113,ZrD),(114,ZuK),(115,Zu6)] [(1,Zr8)] Zqc ZjE ⟨Zel,ZlJ,ZrC,ZrF,Tv⟩ Tryz.func51 Tryz.call51 ⟨Zz5,Tv⟩ (t:=λa=>ZjD a.1 a.2)
abbrev Zma:List Sh:=[Sh.agg Zt,Sh.agg Zbb]
abbrev Zik:Rs:=Rs.one (Sh.one (R.sl (RY)))
def ZIS:LS:={n:=73,Sl:=[(2,.fix (A.loc 0 0)),(3,.fix (A.loc 1 0)),(4,.code (Sh.one (R.sl (RY)))),(5,.tip 0),(28,.code (Sh.one (R.sl (R.int u8)))),(29,.code (Sh.one (R.int i64))),(30,.code (Sh.one (R.int i64)))],Bx:=[[.many Zt],[.many Zbb],[.code (.int i64),.code (.int i64),.code (.sl (R.int u8)),.code .bool,.code .bool,.code .bool,.code .bool,.code .bool,.code .bool,.code .bool,.code .bool,.code .bool,.code .bool,.code .bool,.code .bool,.code .bool,.code (.int u16),.code (.int u8)]],Sg:=[⟨(RY),41,true⟩]}
def ZcY (a:List TY×List Int×Int×Int×TC×EVTT×Int×Int×List Int×Bool×Bool×Bool×Bool×Bool×Bool×Bool×Bool×Bool×Bool×Bool×Bool×Bool×Int×Int×List TY×PUnit):RT (Option (Go1 (List TY×List Int×Int×Int×TC×EVTT×Int×Int×List Int×Bool×Bool×Bool×Bool×Bool×Bool×Bool×Bool×Bool×Bool×Bool×Bool×Bool×Int×Int×List TY×PUnit))):=
 let x1:=decide (0<=0)&&decide (0<=a.2.2.2.1)&&(decide (a.2.2.2.1=0)||decide (a.2.2.2.1<=iN (List.length a.2.2.2.2.2.1.2.2.1)))
 let x2:=Zh a.2.2.2.2.1 a.2.2.2.2.2.1.2.1 (subL a.2.2.2.2.2.1.2.2.1 0 a.2.2.2.1)
 let x3:= !x2.2
 let x4:=a.2.2.2.2.2.2.2.2.2.2.2.2.2
 let x5:=x4.2
 let x6:=x5.2
 let x7:=x6.2
 let x8:=x7.2
 let x9:=x8.2
 let x10:=x9.2
 let x11:=x10.2
 let x12:=x11.2
 let x13:=x12.2
 let x14:=x13.2
 let x15:=x14.2.1
 let x16:=x2.1
 let x17:=x16.1
 let x18:=x16.2
 let x19:=x18.2
 let x20:List TY:=x15++[(x17,x18.1,bif ZbC x17 then R.get (R.int u8) a.2.1 a.2.2.2.1 else x19.1,bif x17==1||x17==8 then Ze8 a.2.2.2.2.1.1 (R.get (R.int u8) a.2.1 a.2.2.2.1) else x19.2)]
 let x21:=a.2.2.2.2.2.2.2.2.2.2.2.2.1
 let x22:=x4.1
 let x23:=x5.1
 let x24:=x6.1
 let x25:=x7.1
 let x26:=x8.1
 let x27:=x9.1
 let x28:=x10.1
 let x29:=x11.1
 let x30:=x12.1
 let x31:=x13.1
 let x32:=x14.1
 let x33:List Int×Int×Int×TC×EVTT×Int×Int×List Int×Bool×Bool×Bool×Bool×Bool×Bool×Bool×Bool×Bool×Bool×Bool×Bool×Bool×Int×Int×List TY×PUnit:=(a.2.1,a.2.2.1,a.2.2.2.1,a.2.2.2.2.1,a.2.2.2.2.2.1,a.2.2.2.2.2.2.1,a.2.2.2.2.2.2.2.1,a.2.2.2.2.2.2.2.2.1,a.2.2.2.2.2.2.2.2.2.1,a.2.2.2.2.2.2.2.2.2.2.1,a.2.2.2.2.2.2.2.2.2.2.2.1,x21,x22,x23,x24,x25,x26,x27,x28,x29,x30,x31,x32,x15,PUnit.unit)
 .br (decide (a.2.2.2.1<a.2.2.1)) (.br (!Ze a.2.2.2.1 (List.length a.2.1)||(!x1||(x3||Nat.ble (List.length x20) most))) (.br (!Ze a.2.2.2.1 (List.length a.2.1)||x1) (.br (Ze a.2.2.2.1 (List.length a.2.1)) (.br (x3) (.Lf (some (Go1.ret (x15,x33)))) (.Lf (some (Go1.cont (a.1,a.2.1,a.2.2.1,i64.wrap (a.2.2.2.1+1),a.2.2.2.2.1,a.2.2.2.2.2.1,a.2.2.2.2.2.2.1,a.2.2.2.2.2.2.2.1,a.2.2.2.2.2.2.2.2.1,a.2.2.2.2.2.2.2.2.2.1,a.2.2.2.2.2.2.2.2.2.2.1,a.2.2.2.2.2.2.2.2.2.2.2.1,x21,x22,x23,x24,x25,x26,x27,x28,x29,x30,x31,x32,x20,PUnit.unit))))) (.Lf none)) (.Lf none)) (.Lf none)) (.Lf (some (Go1.brk (a.1,x33))))
def ZqB:Ora:=Za2 true ZIS ZcY (λa=>1000000000000)
theorem ZwY:ZaH (envX prog [(42,Zrn),(97,ZlD),(103,ZhY),(112,Za5),(116,ZnN)] [] 1023 8) (.block 0 (.loop (Z7 Tryz.f52.body 0))) ZqB:=
 loopP ⟨ZiJ,Zj4,Ze6,ZbK,ZiL,Tv⟩
def Zij (c:TC) (e:EVTT):RT (Option (List TY)):=
 let x1:List TY×List Int×Int×Int×TC×EVTT×Int×Int×List Int×Bool×Bool×Bool×Bool×Bool×Bool×Bool×Bool×Bool×Bool×Bool×Bool×Bool×Int×Int×List TY×PUnit:=([],e.2.2.1,iN (List.length e.2.2.1),0,Zi c e.2.1,e,e.1,e.2.1,e.2.2.1,e.2.2.2.1.1,e.2.2.2.1.2.1,e.2.2.2.1.2.2.1,e.2.2.2.1.2.2.2.1,e.2.2.2.1.2.2.2.2.1,e.2.2.2.1.2.2.2.2.2.1,e.2.2.2.1.2.2.2.2.2.2.1,e.2.2.2.1.2.2.2.2.2.2.2.1,e.2.2.2.1.2.2.2.2.2.2.2.2,e.2.2.2.2.1,e.2.2.2.2.2.1,e.2.2.2.2.2.2.1,e.2.2.2.2.2.2.2.1,e.2.2.2.2.2.2.2.2.1,e.2.2.2.2.2.2.2.2.2,[],())
 let x2:=runF true ZcY (λa=>1000000000000) x1
 let x3:=getO (false,x1) x2
 let x4:=x3.2
 .br (!(e.1==1||(e.1==2||e.1==3))&&(e.1 !=6&&e.1 !=7)) (.Lf (some ([]))) (.br (okB x2) (.br x3.1 (.Lf (some x4.1)) (.Lf (some x4.2.2.2.2.2.2.2.2.2.2.2.2.2.2.2.2.2.2.2.2.2.2.2.2.1))) (.Lf none))
def ZAk (c:TC) (e:EVTT):List TY:=getO Zik.Df (Zij c e).val
def Zsm (c:TC) (e:EVTT):Bool:=okB (Zij c e).val
def ZTK:En:=Zg Zma Zik (λa=>some (Zsm a.1 a.2)) (λa=>ZAk a.1 a.2)
theorem ZIR:Za prog 52 ZTK:=
 pureP 1023 [(42,Zrn),(97,ZlD),(103,ZhY),(112,Za5),(116,ZnN)] [(0,ZqB)] Zma Zik ⟨ZiJ,Zj4,Ze6,ZbK,ZiL,Tv⟩ Tryz.func52 Tryz.call52 ⟨ZwY,Tv⟩ (t:=λa=>Zij a.1 a.2)
abbrev Zqa:List Sh:=[Sh.agg Zt,Sh.one (R.sl Zbb)]
abbrev Zjz:Rs:=Rs.one (Sh.one (R.sl Zt))
def ZL4:LS:={n:=23,Sl:=[(2,.fix (A.loc 0 0)),(5,.tip 0),(8,.code (Sh.one (R.sl Zbb))),(9,.code (Sh.one (R.int i64))),(10,.code (Sh.one (R.int i64)))],Bx:=[[.many Zt]],Sg:=[⟨Zt,38,true⟩]}
def Zht (a:List EVTT×Int×Int×TC×List TC×PUnit):RT (Option (Go1 (List EVTT×Int×Int×TC×List TC×PUnit))):=
 let x1:=ZIL a.2.2.2.1 (R.get Zbb a.1 a.2.2.1)
 let x2:List TC:=a.2.2.2.2.1++[x1]
 .br (decide (a.2.2.1<a.2.1)) (.br (!Ze a.2.2.1 (List.length a.1)||Nat.ble (List.length x2) most) (.br (Ze a.2.2.1 (List.length a.1)) (.Lf (some (Go1.cont (a.1,a.2.1,i64.wrap (a.2.2.1+1),x1,x2,PUnit.unit)))) (.Lf none)) (.Lf none)) (.Lf (some (Go1.brk (a.1,a.2.1,a.2.2.1,a.2.2.2.1,a.2.2.2.2.1,PUnit.unit))))
def Zr6:Ora:=Za2 false ZL4 Zht (λa=>1000000000000)
theorem Zz2:ZaH (envX prog [(48,ZEU)] [] 255 8) (.block 0 (.loop (Z7 Tryz.f56.body 0))) Zr6:=
 loopP ⟨Zqf,Tv⟩
def Zjy (c:TC) (l:List EVTT):RT (Option (List TC)):=
 let x1:=runF false Zht (λa=>1000000000000) (l,iN (List.length l),0,c,[],())
 .br (okB x1) (.Lf (some (getO (false,l,iN (List.length l),0,c,[],()) x1).2.2.2.2.2.1)) (.Lf none)
def ZEQ (c:TC) (l:List EVTT):List TC:=getO Zjz.Df (Zjy c l).val
def ZwB (c:TC) (l:List EVTT):Bool:=okB (Zjy c l).val
def ZWu:En:=Zg Zqa Zjz (λa=>some (ZwB a.1 a.2)) (λa=>ZEQ a.1 a.2)
theorem ZL3:Za prog 56 ZWu:=
 pureP 255 [(48,ZEU)] [(0,Zr6)] Zqa Zjz ⟨Zqf,Tv⟩ Tryz.func56 Tryz.call56 ⟨Zz2,Tv⟩ (t:=λa=>Zjy a.1 a.2)
def ZgS (k:Int):Bool:=k==1||(k==2||k==3)
def ZeK (c:TC) (e:EVTT):TC:=(c.1,c.2.1,c.2.2.1,c.2.2.2.1,c.2.2.2.2.1,c.2.2.2.2.2.1,e.2.2.2.2.2.1,e.2.2.2.2.1,e.2.2.2.2.2.2.2.1,e.2.2.2.2.2.2.1,c.2.2.2.2.2.2.2.2.2.2)
def Zan (c:TC) (e:EVTT):TC:=bif ZgS e.1 then finX (ZeK (Zi c e.2.1) e) e.2.1 e.2.2.1 e.2.2.2.1 else bif e.1==4 then ZN c else c
theorem ZTv (c:TC) (e:EVTT):ZIL c e=Zan c e:=by unfold ZIL ZET Zan ZgS;simp only[RT.val];cases e.1==1<;>cases e.1==2<;>cases e.1==3<;>cases e.1==4<;>rfl
def ZeJ (c:TC) (x:TY) (b:Int):TY:=(x.1,x.2.1,bif ZbC x.1 then b else x.2.2.1,bif x.1==1||x.1==8 then Ze8 c.1 b else x.2.2.2)
def cyX (c:TC) (s:Int) (g:List Int):List Int->List TY
 |[]=>[]
 |b::r=>bif (Zh c s g).2 then ZeJ c (Zh c s g).1 b::cyX c s (g++[b]) r else []
def cycE (k:Int):Bool:=ZgS k||(k==6||k==7)
def Zp (c:TC) (e:EVTT):List TY:=bif cycE e.1 then cyX (Zi c e.2.1) e.2.1 [] e.2.2.1 else []
theorem Zhr (c:TC) (s:Int) (g:List Int) (b:Int) (r:List Int):cyX c s g (b::r)=bif (Zh c s g).2 then ZeJ c (Zh c s g).1 b::cyX c s (g++[b]) r else []:=rfl
theorem ZTd (c:TC) (s:Int) (g:List Int):cyX c s g []=[]:=rfl
variable {α:Type}
theorem ZIG {b:Bool} {x y z:α} (h:b=true) (e:x=z:=by rfl):(bif b then x else y)=z:=by rw[h];exact e
theorem ZTe (c:TC) (s:Int):∀(r g:List Int),(cyX c s g r).length<=r.length
 |[],g=>Ye _
 |b::r,g=>by
  have:=ZTe c s r (g++[b]);unfold cyX;cases (Zh c s g).2
  ·exact Yu _
  ·simp only[Ya,List.length_cons];omega
theorem ZsH (g:List Int) (i:Nat):subL g 0 (i:Int)=g.take i:=by simp[subL]
theorem ZIA (g:List Int) (i:Nat) (h:i<g.length):g.drop i=R.get (R.int .u8) g (i:Int)::g.drop (i+1):=by rw[Yao h];simp[R.get,Yi h]
theorem ZFP (g:List Int) (i:Nat) (h:i<g.length):g.take (i+1)=g.take i++[R.get (R.int .u8) g (i:Int)]:=by rw[Yas,Yi h];simp[R.get,Yi h]
theorem cyc_b (c:TC) (e:EVTT) (h:e.2.2.1.length<=1000000):ZwD c e=true/\ZES c e=Zp c e:=by
 have hms:=mst;obtain⟨r,hr,h0,h1⟩:=ZH (fl:=true) (t:=Zd2) (fuel:=λ_=>1000000000000)
  (λa=>∃(i:Nat) (o:List TY),i<=e.2.2.1.length/\o.length<=i/\o++cyX (Zi c e.2.1) e.2.1 (e.2.2.1.take i) (e.2.2.1.drop i)=cyX (Zi c e.2.1) e.2.1 [] e.2.2.1/\a=(e.2.2.1,(e.2.2.1.length:Int),(i:Int),Zi c e.2.1,e,o,()))
  (λa=>Int.toNat (a.2.1-a.2.2.1)) (λr=>r.1=false/\r.2.2.2.2.2.2.1=cyX (Zi c e.2.1) e.2.1 [] e.2.2.1)
  (by
   rintro a ⟨i,o,hi,ho,hc,rfl⟩;by_cases hlt:i<e.2.2.1.length
   ·have d:decide ((i:Int)<(e.2.2.1.length:Int))=true:=Yq (by omega);have hin:Ze (i:Int) e.2.2.1.length=true:=ZC.2 ⟨by omega,by omega⟩;have w:IntKind.wrap .i64 ((i:Int)+1)=((i+1:Nat):Int):=by rw[wrap_i64 _ (by omega) (by omega)];omega
    have h0:(decide ((0:Int)<=0)&&decide ((0:Int)<=(i:Int))&&(decide ((i:Int)=0)||decide ((i:Int)<=iN e.2.2.1.length)))=true:=by
     have:(i:Int)<=iN e.2.2.1.length:=by simp only[iN];omega
     simp[this]
    have hb:∀x:TY,Nat.ble (o++[x]).length most=true:=λx=>Zau (by simp;omega)
    rw[ZIA _ i hlt,Zhr] at hc;cases hn:(Zh (Zi c e.2.1) e.2.1 (e.2.2.1.take i)).2
    ·right;left;rw[hn] at hc;simp only[Yb,Yw] at hc;refine⟨(e.2.2.1,(e.2.2.1.length:Int),(i:Int),Zi c e.2.1,e,o,()),?_,rfl,hc⟩;simp only[Zd2,RT.val,d,hin,ZsH,hn,hb,Yk,Yf,Yh,Ys,Yj,Ya];exact ZIG h0
    ·left;rw[hn] at hc;simp only[Ya] at hc;refine⟨(e.2.2.1,(e.2.2.1.length:Int),((i+1:Nat):Int),Zi c e.2.1,e,o++[ZeJ (Zi c e.2.1) (Zh (Zi c e.2.1) e.2.1 (e.2.2.1.take i)).1 (R.get (R.int .u8) e.2.2.1 (i:Int))],()),?_,⟨i+1,_,by omega,by simp;omega,?_,rfl⟩,by simp only;omega⟩
     ·simp only[Zd2,RT.val,d,hin,w,ZsH,hn,hb,Yk,Yf,Yh,Ys,Yj,Ya,Yb];exact ZIG h0
     ·rw[ZFP _ i hlt,Yn];exact hc
   ·right;left;have e1:i=e.2.2.1.length:=by omega
    subst e1;have d:decide ((e.2.2.1.length:Int)<(e.2.2.1.length:Int))=false:=Yv (by omega);rw[YaR,YaS,ZTd,Yw] at hc
    exact⟨(e.2.2.1,(e.2.2.1.length:Int),(e.2.2.1.length:Int),Zi c e.2.1,e,o,()),by simp only[Zd2,RT.val,d,Yb],rfl,hc⟩)
  (e.2.2.1,(e.2.2.1.length:Int),0,Zi c e.2.1,e,[],()) ⟨0,[],Yu _,Ye _,rfl,rfl⟩ (by simp only;omega)
 obtain⟨r1,r2⟩:=r;simp only at h0 h1;subst h0;have hv:(ZjD c e).val=some (Zp c e):=by unfold ZjD Zp cycE ZgS;simp only[RT.val,iN,hr,okB,getO,Ya,Yb,h1];cases e.1==1<;>cases e.1==2<;>cases e.1==3<;>cases e.1==6<;>cases e.1==7<;>rfl
 exact⟨by simp only[ZwD,hv];rfl,by simp only[ZES,hv,getO]⟩
theorem cyc_w (c:TC) (e:EVTT) (h:e.2.2.1.length<=1000000):Zsm c e=true/\ZAk c e=Zp c e:=by
 have hms:=mst;obtain⟨z1,z2,z3,z4,z5,z6,z7,z8,z9,za,zb,zc,zd,ze,zf,zg,zh,zi,hz⟩:∃z1 z2 z3 z4 z5 z6 z7 z8 z9 za zb zc zd ze zf zg zh zi,(e.1,e.2.1,e.2.2.1,e.2.2.2.1.1,e.2.2.2.1.2.1,e.2.2.2.1.2.2.1,e.2.2.2.1.2.2.2.1,e.2.2.2.1.2.2.2.2.1,e.2.2.2.1.2.2.2.2.2.1,e.2.2.2.1.2.2.2.2.2.2.1,e.2.2.2.1.2.2.2.2.2.2.2.1,e.2.2.2.1.2.2.2.2.2.2.2.2,e.2.2.2.2.1,e.2.2.2.2.2.1,e.2.2.2.2.2.2.1,e.2.2.2.2.2.2.2.1,e.2.2.2.2.2.2.2.2.1,e.2.2.2.2.2.2.2.2.2)=(z1,z2,z3,z4,z5,z6,z7,z8,z9,za,zb,zc,zd,ze,zf,zg,zh,zi):=⟨_,_,_,_,_,_,_,_,_,_,_,_,_,_,_,_,_,_,rfl⟩;have key:∃r,runF true ZcY (λ_=>1000000000000) ([],e.2.2.1,(e.2.2.1.length:Int),0,Zi c e.2.1,e,z1,z2,z3,z4,z5,z6,z7,z8,z9,za,zb,zc,zd,ze,zf,zg,zh,zi,[],())=some r/\
   ((r.1=true/\r.2.1=cyX (Zi c e.2.1) e.2.1 [] e.2.2.1)\/(r.1=false/\r.2.2.2.2.2.2.2.2.2.2.2.2.2.2.2.2.2.2.2.2.2.2.2.2.2.1=cyX (Zi c e.2.1) e.2.1 [] e.2.2.1)):=by
  refine ZH (fl:=true) (t:=ZcY) (fuel:=λ_=>1000000000000)
   (λa=>∃(i:Nat) (o:List TY),i<=e.2.2.1.length/\o.length<=i/\o++cyX (Zi c e.2.1) e.2.1 (e.2.2.1.take i) (e.2.2.1.drop i)=cyX (Zi c e.2.1) e.2.1 [] e.2.2.1/\a=([],e.2.2.1,(e.2.2.1.length:Int),(i:Int),Zi c e.2.1,e,z1,z2,z3,z4,z5,z6,z7,z8,z9,za,zb,zc,zd,ze,zf,zg,zh,zi,o,()))
   (λa=>Int.toNat (a.2.2.1-a.2.2.2.1)) _ ?_ _ ⟨0,[],Yu _,Ye _,rfl,rfl⟩ (by simp only;omega)
  rintro a ⟨i,o,hi,ho,hc,rfl⟩;by_cases hlt:i<e.2.2.1.length
  ·have d:decide ((i:Int)<(e.2.2.1.length:Int))=true:=Yq (by omega);have hin:Ze (i:Int) e.2.2.1.length=true:=ZC.2 ⟨by omega,by omega⟩;have w:IntKind.wrap .i64 ((i:Int)+1)=((i+1:Nat):Int):=by rw[wrap_i64 _ (by omega) (by omega)];omega
   have h0:(decide ((0:Int)<=0)&&decide ((0:Int)<=(i:Int))&&(decide ((i:Int)=0)||decide ((i:Int)<=iN e.2.2.1.length)))=true:=by
    have:(i:Int)<=iN e.2.2.1.length:=by simp only[iN];omega
    simp[this]
   have hb:∀x:TY,Nat.ble (o++[x]).length most=true:=λx=>Zau (by simp;omega)
   rw[ZIA _ i hlt,Zhr] at hc;cases hn:(Zh (Zi c e.2.1) e.2.1 (e.2.2.1.take i)).2
   ·right;right;rw[hn] at hc;simp only[Yb,Yw] at hc;refine⟨(o,e.2.2.1,(e.2.2.1.length:Int),(i:Int),Zi c e.2.1,e,z1,z2,z3,z4,z5,z6,z7,z8,z9,za,zb,zc,zd,ze,zf,zg,zh,zi,o,()),rfl,?_,.inl ⟨rfl,hc⟩⟩;simp only[ZcY,RT.val,d,hin,ZsH,hn,hb,Yk,Yf,Yh,Ys,Yj,Ya];exact ZIG h0
   ·left;rw[hn] at hc;simp only[Ya] at hc;refine⟨([],e.2.2.1,(e.2.2.1.length:Int),((i+1:Nat):Int),Zi c e.2.1,e,z1,z2,z3,z4,z5,z6,z7,z8,z9,za,zb,zc,zd,ze,zf,zg,zh,zi,o++[ZeJ (Zi c e.2.1) (Zh (Zi c e.2.1) e.2.1 (e.2.2.1.take i)).1 (R.get (R.int .u8) e.2.2.1 (i:Int))],()),?_,⟨i+1,_,by omega,by simp;omega,?_,rfl⟩,by simp only;omega⟩
    ·simp only[ZcY,RT.val,d,hin,w,ZsH,hn,hb,Yk,Yf,Yh,Ys,Yj,Ya,Yb];exact ZIG h0
    ·rw[ZFP _ i hlt,Yn];exact hc
  ·right;left;have e1:i=e.2.2.1.length:=by omega
   subst e1;have d:decide ((e.2.2.1.length:Int)<(e.2.2.1.length:Int))=false:=Yv (by omega);rw[YaR,YaS,ZTd,Yw] at hc;exact⟨([],e.2.2.1,(e.2.2.1.length:Int),(e.2.2.1.length:Int),Zi c e.2.1,e,z1,z2,z3,z4,z5,z6,z7,z8,z9,za,zb,zc,zd,ze,zf,zg,zh,zi,o,()),by simp only[ZcY,RT.val,d,Yb],.inr ⟨rfl,hc⟩⟩
 obtain⟨r,hr,h1⟩:=key;simp only[pinj] at hz;obtain⟨rfl,rfl,rfl,rfl,rfl,rfl,rfl,rfl,rfl,rfl,rfl,rfl,rfl,rfl,rfl,rfl,rfl,rfl⟩:=hz;obtain⟨r1,r2⟩:=r;simp only at h1;have hv:(Zij c e).val=some (Zp c e):=by
  unfold Zij Zp cycE ZgS;have hbool:∀a b c d f:Bool,(!(a||(b||c))&&(!d&& !f))= !(a||(b||c)||(d||f)):=by decide
  have hne:∀k:Int,(e.1 !=k)= !(e.1==k):=λk=>rfl
  rcases h1 with ⟨h0,h1⟩|⟨h0,h1⟩
  ·subst h0;simp only[RT.val,iN,hr,okB,getO,Ya,Yb,h1,hne,hbool];cases e.1==1||(e.1==2||e.1==3)||(e.1==6||e.1==7)<;>rfl
  ·subst h0;simp only[RT.val,iN,hr,okB,getO,Ya,Yb,h1,hne,hbool];cases e.1==1||(e.1==2||e.1==3)||(e.1==6||e.1==7)<;>rfl
 exact⟨by simp only[Zsm,hv];rfl,by simp only[ZAk,hv,getO]⟩
def Zdk (c:TC):List EVTT->List TC
 |[]=>[]
 |e::l=>Zan c e::Zdk (Zan c e) l
def Zai (c:TC) (l:List EVTT):TC:=l.foldl Zan c
theorem ZOm (c:TC):∀l:List EVTT,(Zdk c l).length=l.length:=by
 intro l
 induction l generalizing c with
 |nil=>rfl
 |cons e l ih=>simp only[Zdk,List.length_cons,ih]
variable {r:R}
theorem ZAD (g:List r.den) (i:Nat) (h:i<g.length):g.take (i+1)=g.take i++[R.get r g (i:Int)]:=by rw[Yas,Yi h];simp[R.get,Yi h]
theorem ZEE (g:List r.den) (i:Nat) (h:i<g.length):g.drop i=R.get r g (i:Int)::g.drop (i+1):=by rw[Yao h];simp[R.get,Yi h]
theorem ZUr (T:List EVTT×Int×Int×TC×List TC×PUnit->RT (Option (Go1 (List EVTT×Int×Int×TC×List TC×PUnit))))
  (hT:∀(l:List EVTT) (n i:Int) (c:TC) (o:List TC),(T (l,n,i,c,o,())).val=bif decide (i<n) then (bif !Ze i l.length||Nat.ble (o++[Zan c (R.get Zbb l i)]).length most then (bif Ze i l.length then some (.cont (l,n,IntKind.wrap .i64 (i+1),Zan c (R.get Zbb l i),o++[Zan c (R.get Zbb l i)],())) else none) else none) else some (.brk (l,n,i,c,o,())))
  (c:TC) (l:List EVTT) (h:l.length<=1000000):∃z,runF false T (λ_=>1000000000000) (l,(l.length:Int),0,c,[],())=some (false,(l,(l.length:Int),(l.length:Int),z,Zdk c l,())):=by
 have hms:=mst;obtain⟨r,hr,z,h1⟩:=ZH (fl:=false) (t:=T) (fuel:=λ_=>1000000000000)
  (λa=>∃(i:Nat) (c':TC) (o:List TC),i<=l.length/\o.length=i/\o++Zdk c' (l.drop i)=Zdk c l/\a=(l,(l.length:Int),(i:Int),c',o,()))
  (λa=>Int.toNat (a.2.1-a.2.2.1)) (λr=>∃z,r=(false,(l,(l.length:Int),(l.length:Int),z,Zdk c l,())))
  (by
   rintro a ⟨i,c',o,hi,ho,hc,rfl⟩;by_cases hlt:i<l.length
   ·left;have d:decide ((i:Int)<(l.length:Int))=true:=Yq (by omega);have hin:Ze (i:Int) l.length=true:=ZC.2 ⟨by omega,by omega⟩;have w:IntKind.wrap .i64 ((i:Int)+1)=((i+1:Nat):Int):=by rw[wrap_i64 _ (by omega) (by omega)];omega
    have hb:∀x:TC,Nat.ble (o++[x]).length most=true:=λx=>Zau (by simp;omega)
    rw[ZEE (r:=Zbb) l i hlt] at hc;refine⟨(l,(l.length:Int),((i+1:Nat):Int),Zan c' (R.get Zbb l (i:Int)),o++[Zan c' (R.get Zbb l (i:Int))],()),?_,⟨i+1,_,_,by omega,by simp;omega,?_,rfl⟩,by simp only;omega⟩
    ·rw[hT];simp only[d,hin,w,hb,Yh,Ya]
    ·rw[Yn];exact hc
   ·right;left;have e1:i=l.length:=by omega
    subst e1;have d:decide ((l.length:Int)<(l.length:Int))=false:=Yv (by omega);rw[YaS] at hc;simp only[Zdk,Yw] at hc;subst hc
    exact⟨_,by rw[hT];simp only[d,Yb],c',rfl⟩)
  (l,(l.length:Int),0,c,[],()) ⟨0,c,[],Yu _,rfl,rfl,rfl⟩ (by simp only;omega)
 exact⟨z,by rw[<-h1];exact hr⟩
theorem Z1R (c:TC) (l:List EVTT) (h:l.length<=1000000):ZwB c l=true/\ZEQ c l=Zdk c l:=by
 obtain⟨z,hr⟩:=ZUr Zht (λl n i c o=>by simp only[Zht,RT.val,ZTv]) c l h;have hv:(Zjy c l).val=some (Zdk c l):=by simp only[Zjy,RT.val,iN,hr,okB,getO,Ya]
 exact⟨by simp only[ZwB,hv];rfl,by simp only[ZEQ,hv,getO]⟩
def Zqo (e:EVTT):Bool:=Nat.ble e.2.2.1.length 1000000
def ZUo {α:Type} (l:List α):Bool:=Nat.ble l.length 1000000
theorem ZUn {l:List α} (h:ZUo l=true):l.length<=1000000:=by simpa [ZUo] using h
theorem ZF0 {e:EVTT} (h:Zqo e=true):e.2.2.1.length<=1000000:=by simpa [Zqo] using h
def ZjF:En:=Zg ZwE ZwF (λ_=>none) (λa=>Zan a.1 a.2)
theorem Zhu:Za prog 48 ZjF:=Zqf.tot (λa h=>by simp) (λa h=>ZTv a.1 a.2)
def Zqe:En:=Zg Zqc ZjE (λa=>some (Zqo a.2)) (λa=>Zp a.1 a.2)
theorem Zqd:Za prog 51 Zqe:=ZhQ ZL7 λa h=>cyc_b a.1 a.2 (ZF0 h)
def Zmc:En:=Zg Zma Zik (λa=>some (Zqo a.2)) (λa=>Zp a.1 a.2)
theorem Zmb:Za prog 52 Zmc:=ZhQ ZIR λa h=>cyc_w a.1 a.2 (ZF0 h)
def Zz3:En:=Zg Zqa Zjz (λa=>some (ZUo a.2)) (λa=>Zdk a.1 a.2)
theorem ZEP:Za prog 56 Zz3:=ZhQ ZL3 λa h=>Z1R a.1 a.2 (ZUn h)
abbrev ZaL:R:=R.int u8
abbrev ZaM:Nat:=5
abbrev ZjI:List Sh:=[Sh.one (R.sl Zds)]
def ZAj:LS:={n:=64,Sl:=[(3,.tip 0),(7,.code (Sh.one (R.sl Zds))),(8,.code (Sh.one (R.int i64))),(9,.code (Sh.one (R.int i64)))],Bx:=[],Sg:=[⟨(R.int u8),5,false⟩]}
def ZhL (a:List INPT×Int×Int×List Int×PUnit):RT (Option (Go1 (List INPT×Int×Int×List Int×PUnit))):=
 let x1:INPT:=R.get Zds a.1 a.2.2.1
 let x2:= !x1.1
 let x3:=Zfq x2 0
 let x4:= !x3
 let x5:=x1.2
 let x6:=x5.1
 let x7:=Zfq x6 1
 let x8:= !x7
 let x9:=x5.2
 let x10:=x9.1
 let x11:=Zfq x10 2
 let x12:= !x11
 let x13:=x9.2
 let x14:=x13.1
 let x15:=Zfq x14 3
 let x16:= !x15
 let p2:=x16::x12::x8::x4::[]
 let x17:=x13.2
 let x18:=x17.1
 let x19:=Zfq x18 4
 let x20:= !x19
 let p3:=x20::p2
 let x21:=x17.2
 let x22:=x21.1
 let x23:=Zfq x22 5
 let x24:= !x23
 let p6:=x24::p3
 let x25:=x21.2
 let x26:=x25.1
 let x27:=Zfq x26 6
 let p8:=(!x27)::p6
 let x28:=x25.2
 let x29:=x28.1
 let x30:=orR p8 (Zfq x29 7)
 let x31:= !x30
 let x32:=orR p6 x27
 let x33:= !x32
 let p1:=x33::x31::(decide (a.2.2.1>=65536))::(!Ze a.2.2.1 (List.length a.1))::[]
 let x34:=orR p3 x23
 let x35:= !x34
 let p4:=x35::p1
 let x36:=orR p2 x19
 let x37:= !x36
 let p5:=x37::p4
 let x38:=x4||(x8||(x12||x15))
 let x39:= !x38
 let p7:=x39::p5
 let x40:=x4||(x8||x11)
 let x41:= !x40
 let p9:=x41::p7
 let x42:=x4||x7
 let x43:= !x42
 let p10:=x43::p9
 let p11:=x4::p10
 let x44:=orI u8 (orI u8 (orI u8 (orI u8 (orI u8 (orI u8 (orI u8 (wBit x2 0) (wBit x6 1)) (wBit x10 2)) (wBit x14 3)) (wBit x18 4)) (wBit x22 5)) (wBit x26 6)) (wBit x29 7)
 let x45:=x28.2
 let x46:=x45.1
 let x47:=x45.2
 let x48:List Int:=a.2.2.2.1++[x44,x46,x47,Zw0 x44 x46 x47]
 .br (decide (a.2.2.1<a.2.1)) (.br (orR p11 (Nat.ble (List.length x48) most)) (.br (orR p10 x3) (.br (orR p9 x42) (.br (orR p7 x40) (.br (orR p5 x38) (.br (orR p4 x36) (.br (orR p1 x34) (.br (!Ze a.2.2.1 (List.length a.1)||(decide (a.2.2.1>=65536)||(x31||x32))) (.br (!Ze a.2.2.1 (List.length a.1)||(decide (a.2.2.1>=65536)||x30)) (.br (Ze a.2.2.1 (List.length a.1)) (.br (decide (a.2.2.1>=65536)) (.Lf (some (Go1.brk (a.1,a.2.1,a.2.2.1,a.2.2.2.1,PUnit.unit)))) (.Lf (some (Go1.cont (a.1,a.2.1,i64.wrap (a.2.2.1+1),x48,PUnit.unit))))) (.Lf none)) (.Lf none)) (.Lf none)) (.Lf none)) (.Lf none)) (.Lf none)) (.Lf none)) (.Lf none)) (.Lf none)) (.Lf none)) (.Lf (some (Go1.brk (a.1,a.2.1,a.2.2.1,a.2.2.2.1,PUnit.unit))))
def Zl7:Ora:=Za2 false ZAj ZhL (λa=>1000000000000)
theorem Zsk:ZaH (envX prog [(133,ZYC),(134,Zme)] [] 127 8) (.block 0 (.loop (Z7 Tryz.f70.body 0))) Zl7:=
 loopP ⟨ZMH,Zin,Tv⟩
def Zf8 (l:List INPT):RT (Option (List Int)):=
 let x1:=runF false ZhL (λa=>1000000000000) (l,iN (List.length l),0,[],())
 .br (okB x1) (.Lf (some (getO (false,l,iN (List.length l),0,[],()) x1).2.2.2.2.1)) (.Lf none)
def Zbu (l:List INPT):List Int:=getO [] (Zf8 l).val
def Zf9 (l:List INPT):Bool:=okB (Zf8 l).val
def ZwU:En:=frzE (newE ZaL ZaM ZjI (λa=>some (Zf9 a)) (λa=>Zbu a))
theorem ZwV:Za prog 70 (newE ZaL ZaM ZjI (λa=>some (Zf9 a)) (λa=>Zbu a)):=
 ZlO (P:=prog) (n:=127) (k:=8) (l:=[(133,ZYC),(134,Zme)]) (ol:=[(0,Zl7)]) ⟨ZMH,Zin,Tv⟩ Tryz.func70 rfl (by kernel_rfl) Tryz.call70 ⟨Zsk,Tv⟩ (r:=ZaL) (T:=ZaM) (ts:=ZjI) (t:=λa=>Zf8 a) (λa=>by kernel_rfl)
theorem ZAi:Za prog 70 ZwU:=ZzK ZwV
abbrev ZoZ:R:=R.Pq (R.sl (R.int i64)) (R.int i64)
abbrev ZyV:List Sh:=[Sh.one (R.int i64)]
abbrev ZoY:Rs:=Rs.one (Sh.one (R.sl (R.int u8)))
def Zhf (s:List Int×Int) (n:Int):RT (Option (List Int×List Int×Int)):=
 let x1:=decide (iN (List.length (Stg.l (newG ZaL ZaM (Zbu (Zag s n).1))))>0)
 let x2:=x1&&(Zd (Zag s n).2 4).1==0
 let x3:= !x2
 let x4:List Int:=bif x1 then (Zd (Zag s n).2 4).2.1 else (Zag s n).2.1
 let x5:Int:=bif x1 then (Zd (Zag s n).2 4).2.2 else (Zag s n).2.2
 let x6:List Int×Int:=(x4,x5)
 let x7:=Zl x6 (iN (List.length (Stg.l (newG ZaL ZaM (Zbu (Zag s n).1)))))
 let x8:= !x7
 let x9:=Zd x6 (iN (List.length (Stg.l (newG ZaL ZaM (Zbu (Zag s n).1)))))
 let x10:=x9.1
 let x11:=Ze x10 (List.length (Stg.l (newG ZaL ZaM (Zbu (Zag s n).1))))
 let x12:= !x11
 let x13:=x9.2
 let x14:=Zl x13 8
 let x15:= !x14
 let p1:=x15::x12::x8::x3::[]
 let x16:=Zd x13 8
 let x17:=x16.1
 let x18:=decide (0<=x17)
 let p2:=(!x18)::p1
 let x19:=x16.2
 .br (!Zi6 s n||Zf9 (Zag s n).1) (.br (Zi6 s n) (.br (!x1||Zl (Zag s n).2 4) (.br (orR p2 x11) (.br (orR p1 x18) (.br (x3||(x8||(x12||x14))) (.br (x3||(x8||x11)) (.br (x3||x7) (.Lf (some ((bif x2 then setI (Stg.l (newG ZaL ZaM (Zbu (Zag s n).1))) x10 (xorI u8 (R.get (Stg.r (newG ZaL ZaM (Zbu (Zag s n).1))) (Stg.l (newG ZaL ZaM (Zbu (Zag s n).1))) x10) (shlI u8 1 x17)) else Stg.l (newG ZaL ZaM (Zbu (Zag s n).1)),bif x2 then x19.1 else x4,bif x2 then x19.2 else x5)))) (.Lf none)) (.Lf none)) (.Lf none)) (.Lf none)) (.Lf none)) (.Lf none)) (.Lf none)) (.Lf none)
def Zc2 (s:List Int×Int) (n:Int):List Int×List Int×Int:=getO (ZoY.Df,ZoZ.Df) (Zhf s n).val
def Zhg (s:List Int×Int) (n:Int):Bool:=okB (Zhf s n).val
def ZHP:En:=boxE ZoZ ZyV ZoY (λa=>some (Zhg a.1 a.2)) (λa=>Zc2 a.1 a.2)
theorem ZLv:Za prog 64 ZHP:=
 Zcr (P:=prog) (n:=63) (k:=8) (l:=[(46,ZcH),(70,ZwU),(71,ZHQ)]) (ol:=[]) ⟨Zbc,ZAi,ZLy,Tv⟩ Tryz.func64 rfl (by kernel_rfl) Tryz.call64 trivial (rb:=ZoZ) (ts:=ZyV) (rs:=ZoY) (t:=λa=>Zhf a.1 a.2) (λa=>by kernel_rfl)
theorem ZSY:ZhL=ZdU:=by funext a;rfl
theorem ZTJ (l:List INPT) (hl:l.length<=1000):Zf9 l=true/\Zbu l=Zl8 l/\(Zbu l).length=4*l.length:=by
 have h:=ZIP l hl;have e:Zf8 l=ZgX l:=by unfold Zf8 ZgX;rw[ZSY]
 have e2:Zbu l=Zl8 l:=by unfold Zbu Zl8;rw[e];rfl
 refine⟨by unfold Zf9;rw[e];exact h.1,e2,by rw[e2];exact h.2⟩
theorem ZLw {s:List Int×Int} {k:Int} (h:NB s k) (hk:k<=50000) (n:Nat) (hn:n<=250):
  Zhg s (n:Int)=true/\NB (Zc2 s (n:Int)).2 (k+10+30*n)/\(Zc2 s (n:Int)).1.length<=4*n/\∃m:Nat,(Zc2 s (n:Int)).1.length=4*m:=by
 have hms:=mst;obtain⟨c1,b1,l1⟩:=ZLz h (by omega) n hn;obtain⟨c2,e2,l2⟩:=ZTJ (Zag s (n:Int)).1 (by omega);have hg:∀l:List Int,Stg.l (newG ZaL ZaM l)=l:=λ_=>rfl
 have hr:∀l:List Int,Stg.r (newG ZaL ZaM l)=R.int .u8:=λ_=>rfl
 obtain⟨L,hL⟩:∃L,L=Zbu (Zag s (n:Int)).1:=⟨_,rfl⟩;rw[<-hL] at l2;obtain⟨c3,b3,_⟩:=Zv b1 (by omega) 4 (by decide) (by decide);have b4:NB (bif decide (iN L.length>0) then (Zd (Zag s (n:Int)).2 4).2.1 else (Zag s (n:Int)).2.1,bif decide (iN L.length>0) then (Zd (Zag s (n:Int)).2 4).2.2 else (Zag s (n:Int)).2.2) (k+3+30*n):=by
  cases decide (iN L.length>0)
  ·exact b1.up (by omega)
  ·exact b3.up (by omega)
 obtain⟨s4,hs4⟩:∃s4:List Int×Int,s4=(bif decide (iN L.length>0) then (Zd (Zag s (n:Int)).2 4).2.1 else (Zag s (n:Int)).2.1,bif decide (iN L.length>0) then (Zd (Zag s (n:Int)).2 4).2.2 else (Zag s (n:Int)).2.2):=⟨_,rfl⟩;rw[<-hs4] at b4;have hv:∃l s',(Zhf s (n:Int)).val=some (l,s')/\NB s' (k+10+30*n)/\l.length=L.length:=by
  by_cases hz:0<L.length
  ·have d:decide (iN L.length>0)=true:=Yq (by simp only[iN];omega);obtain⟨c5,b5,d0,d1⟩:=Zv b4 (by omega) (iN L.length) (by simp only[iN];omega) (by simp only[iN];omega);obtain⟨c6,b6,f0,f1⟩:=Zv b5 (by omega) 8 (by decide) (by decide);have r5:Ze (Zd s4 (iN L.length)).1 L.length=true:=ZC.2 ⟨d0,by simpa [iN] using d1⟩;have e6:decide (0<=(Zd (Zd s4 (iN L.length)).2 8).1)=true:=Yq f0;rw[d] at hs4;simp only[Ya] at hs4;unfold Zhf;simp only[RT.val,hg,hr,<-hL,c1,c2,d,c3,<-hs4,c5,r5,c6,e6,Zcg,Zbl,YX,Yf,Yh,Yj,Ya];cases (Zd (Zag s (n:Int)).2 4).1==0
   ·exact⟨_,_,rfl,b3.up (by omega),rfl⟩
   ·exact⟨_,_,rfl,b6.up (by omega),by simp only[Ya,setI,YaA]⟩
  ·have d:decide (iN L.length>0)=false:=Yv (by simp only[iN];omega);rw[d] at hs4;simp only[Yb] at hs4;unfold Zhf;simp only[RT.val,hg,hr,<-hL,c1,c2,d,Zcg,Zbl,YZ,Yf,Yk,Ys,Yh,Yj,Ya,Yb];exact⟨_,_,rfl,b1.up (by omega),rfl⟩
 obtain⟨l,s',hv,h1,h2⟩:=hv;simp only[Zhg,Zc2,hv,okB,getO];exact⟨trivial,h1,by omega,(Zag s (n:Int)).1.length,by omega⟩
abbrev Zr5:List Sh:=[Sh.agg Zt,Sh.one rcRG,Sh.one rcCE,Sh.agg Zbb]
abbrev ZkE:Rs:=Rs.one (Sh.one rcCE)
def ZEO:LS:={n:=48,Sl:=[(1,.code (Sh.one rcRG)),(2,.code (Sh.one rcCE)),(25,.code (Sh.one (R.sl (RY)))),(26,.code (Sh.one (R.int i64))),(27,.code (Sh.one (R.int i64)))],Bx:=[[.many Zt],[.many Zbb]],Sg:=[]}
def ZeB (a:List (QT3)×List (Int×Int)×List TY×Int×Int×TC×EVTT×PUnit):RT (Option (Go1 (List (QT3)×List (Int×Int)×List TY×Int×Int×TC×EVTT×PUnit))):=
 let x1:QT12:=R.get (RY) a.2.2.1 a.2.2.2.2.1
 let x2:=x1.1
 let x3:=x2==3||x2==5
 let x4:=x1.2
 let x5:TC×EVTT×PUnit:=(a.2.2.2.2.2.1,a.2.2.2.2.2.2.1,PUnit.unit)
 .br (decide (a.2.2.2.2.1<a.2.2.2.1)) (.br (!Ze a.2.2.2.2.1 (List.length a.2.2.1)||(!x3||smG a.1&&smC a.2.1)) (.br (Ze a.2.2.2.2.1 (List.length a.2.2.1)) (.Lf (some (Go1.cont (a.1,bif x3 then ZaO a.1 a.2.1 x4.1 x4.2.1 else a.2.1,a.2.2.1,a.2.2.2.1,i64.wrap (a.2.2.2.2.1+1),x5)))) (.Lf none)) (.Lf none)) (.Lf (some (Go1.brk (a.1,a.2.1,a.2.2.1,a.2.2.2.1,a.2.2.2.2.1,x5))))
def Zp8:Ora:=Za2 false ZEO ZeB (λa=>1000000000000)
theorem ZwA:ZaH (envX prog [(51,Zqe),(187,ZgB)] [] 2047 8) (.block 0 (.loop (Z7 Tryz.f118.body 0))) Zp8:=
 loopP ⟨Zqd,Zh2,Tv⟩
def ZgV (c:TC) (rg:List (QT3)) (m:List (Int×Int)) (e:EVTT):RT (Option (List (Int×Int))):=
 let x1:List (QT3)×List (Int×Int)×List TY×Int×Int×TC×EVTT×PUnit:=(rg,m,Zp c e,iN (List.length (Zp c e)),0,c,e,())
 let x2:=runF false ZeB (λa=>1000000000000) x1
 .br (!e.1==5||smG rg&&smC m) (.br (e.1==5) (.Lf (some (ZaO rg m e.2.2.2.2.2.2.2.2.1 e.2.2.2.2.2.2.2.2.2))) (.br (Zqo e) (.br (okB x2) (.Lf (some (getO (false,x1) x2).2.2.1)) (.Lf none)) (.Lf none))) (.Lf none)
def Zl0 (c:TC) (rg:List (QT3)) (m:List (Int×Int)) (e:EVTT):List (Int×Int):=getO ZkE.Df (ZgV c rg m e).val
def Zjx (c:TC) (rg:List (QT3)) (m:List (Int×Int)) (e:EVTT):Bool:=okB (ZgV c rg m e).val
def Zp9:En:=Zg Zr5 ZkE (λa=>some (Zjx a.1 a.2.1 a.2.2.1 a.2.2.2)) (λa=>Zl0 a.1 a.2.1 a.2.2.1 a.2.2.2)
theorem Zp7:Za prog 118 Zp9:=
 pureP 2047 [(51,Zqe),(187,ZgB)] [(0,Zp8)] Zr5 ZkE ⟨Zqd,Zh2,Tv⟩ Tryz.func118 Tryz.call118 ⟨ZwA,Tv⟩ (t:=λa=>ZgV a.1 a.2.1 a.2.2.1 a.2.2.2)
abbrev Zqb:List Sh:=[Sh.agg Zt,Sh.one rcRG,Sh.one rcCE,Sh.one (R.sl Zbb)]
abbrev ZjB:Rs:=Rs.one (Sh.one rcCE)
def ZL6:LS:={n:=29,Sl:=[(1,.code (Sh.one rcRG)),(2,.code (Sh.one rcCE)),(4,.fix (A.loc 0 0)),(13,.code (Sh.one (R.sl Zbb))),(14,.code (Sh.one (R.int i64))),(15,.code (Sh.one (R.int i64)))],Bx:=[[.many Zt]],Sg:=[]}
def Zfo (a:List (QT3)×List (Int×Int)×List EVTT×Int×Int×TC×PUnit):RT (Option (Go1 (List (QT3)×List (Int×Int)×List EVTT×Int×Int×TC×PUnit))):=
 let x1:EVTT:=R.get Zbb a.2.2.1 a.2.2.2.2.1
 .br (decide (a.2.2.2.2.1<a.2.2.2.1)) (.br (!Ze a.2.2.2.2.1 (List.length a.2.2.1)||Zjx a.2.2.2.2.2.1 a.1 a.2.1 x1) (.br (Ze a.2.2.2.2.1 (List.length a.2.2.1)) (.Lf (some (Go1.cont (a.1,Zl0 a.2.2.2.2.2.1 a.1 a.2.1 x1,a.2.2.1,a.2.2.2.1,i64.wrap (a.2.2.2.2.1+1),Zan a.2.2.2.2.2.1 x1,PUnit.unit)))) (.Lf none)) (.Lf none)) (.Lf (some (Go1.brk (a.1,a.2.1,a.2.2.1,a.2.2.2.1,a.2.2.2.2.1,a.2.2.2.2.2.1,PUnit.unit))))
def Zr7:Ora:=Za2 false ZL6 Zfo (λa=>1000000000000)
theorem Zz4:ZaH (envX prog [(48,ZjF),(117,Zpq),(118,Zp9)] [] 2047 8) (.block 0 (.loop (Z7 Tryz.f58.body 0))) Zr7:=
 loopP ⟨Zhu,Zpp,Zp7,Tv⟩
def ZjA (c:TC) (rg:List (QT3)) (m:List (Int×Int)) (l:List EVTT):RT (Option (List (Int×Int))):=
 let x1:List (QT3)×List (Int×Int)×List EVTT×Int×Int×TC×PUnit:=(rg,Cells.normX m,l,iN (List.length l),0,c,())
 let x2:=runF false Zfo (λa=>1000000000000) x1
 .br (smC m) (.br (okB x2) (.Lf (some (getO (false,x1) x2).2.2.1)) (.Lf none)) (.Lf none)
def ZER (c:TC) (rg:List (QT3)) (m:List (Int×Int)) (l:List EVTT):List (Int×Int):=getO ZjB.Df (ZjA c rg m l).val
def ZwC (c:TC) (rg:List (QT3)) (m:List (Int×Int)) (l:List EVTT):Bool:=okB (ZjA c rg m l).val
def ZWv:En:=Zg Zqb ZjB (λa=>some (ZwC a.1 a.2.1 a.2.2.1 a.2.2.2)) (λa=>ZER a.1 a.2.1 a.2.2.1 a.2.2.2)
theorem ZL5:Za prog 58 ZWv:=
 pureP 2047 [(48,ZjF),(117,Zpq),(118,Zp9)] [(0,Zr7)] Zqb ZjB ⟨Zhu,Zpp,Zp7,Tv⟩ Tryz.func58 Tryz.call58 ⟨Zz4,Tv⟩ (t:=λa=>ZjA a.1 a.2.1 a.2.2.1 a.2.2.2)
abbrev ZIe:List Sh:=[Sh.agg (R.Pq (R.int i64) (R.Pq rcRG (R.Pq (R.int i64) (R.Pq (R.int u8) (R.Pq (R.int u8) (R.Pq R.bool rcCE))))))]
abbrev ZIf:Rs:=Rs.one (Sh.agg Zt)
def ZSm (b:BRDT):RT TC:=
 let x1:TR:=(0,0,0,0,0,0,0,(false,false,false,false,false,false,false),0,0)
 let x2:=ZN (b.1,x1,false,false,false,0,false,false,false,false,false,false,false)
 .Lf ((x2.1,x1,false,false,false,x2.2.2.2.2.2.1,false,false,false,false,false,false,false))
def Zdq (b:BRDT):TC:=(ZSm b).val
def ZEo:En:=Zg ZIe ZIf (λ_=>none) (λa=>Zdq a)
theorem Zzt:Za prog 60 ZEo:=
 pureQ 7 [(81,Ztc)] [] ZIe ZIf ⟨ZmX,Tv⟩ Tryz.func60 Tryz.call60 trivial (t:=λa=>ZSm a)
def ZeR:En:=.tree (ZO (envX prog [] [] 7 8) Tryz.f21)
theorem Zhy:Za prog 21 ZeR:=Zaf (P:=prog) (n:=7) (k:=8) (l:=[]) (ol:=[]) trivial Tryz.func21 rfl (by kernel_rfl) Tryz.call21 trivial
abbrev ZSn:List Sh:=[Sh.one (R.sl (R.int i64)),Sh.one R.bool]
abbrev ZEp:Rs:=Rs.tup [Sh.agg (R.Pq (R.int i64) (R.Pq rcRG (R.Pq (R.int i64) (R.Pq (R.int u8) (R.Pq (R.int u8) (R.Pq R.bool rcCE)))))),Sh.agg (R.Pq (R.sl ZOp) (R.Pq (R.sl ZAY) (R.Pq (R.sl Zbb) (R.Pq (R.sl Zt) (R.Pq (R.Pq Zt (R.Pq (R.int i64) (R.Pq (R.sl (R.int u8)) (R.Pq (RY) (R.Pq (R.int i64) R.bool))))) (R.Pq rcCE (R.Pq Zba (R.Pq (R.Pq (R.int u16) (R.Pq (R.int u8) (R.int i64))) (R.Pq (R.int i64) (R.sl (R.Pq (R.int u8) (R.int u8))))))))))))]
def Zzu (n:List Int) (h:Bool):RT (Option (BRDT×RUNT)):=
 let x1:BRDT:=((Zah (n,0)).1.1,(Zah (n,0)).1.2.1,(Zah (n,0)).1.2.2.1,(Zah (n,0)).1.2.2.2.1,bif !h then 240 else (Zah (n,0)).1.2.2.2.2.1,(Zah (n,0)).1.2.2.2.2.2)
 .br (Zpf (n,0)) (.br (!Zhg (Zah (n,0)).2 90||ZTD x1 (Zc2 (Zah (n,0)).2 90).1) (.br (Zhg (Zah (n,0)).2 90) (.Lf (some ((x1,(wRun x1 (Zc2 (Zah (n,0)).2 90).1).1)))) (.Lf none)) (.Lf none)) (.Lf none)
def Zwb (n:List Int) (h:Bool):BRDT×RUNT:=getO ZEp.Df (Zzu n h).val
def ZIh (n:List Int) (h:Bool):Bool:=okB (Zzu n h).val
def ZSo:En:=Zg ZSn ZEp (λa=>some (ZIh a.1 a.2)) (λa=>Zwb a.1 a.2)
theorem ZIg:Za prog 54 ZSo:=
 pureP 1023 [(21,ZeR),(62,ZR1),(63,Z1r),(64,ZHP)] [] ZSn ZEp ⟨Zhy,ZRZ,ZYv,ZLv,Tv⟩ Tryz.func54 Tryz.call54 trivial (t:=λa=>Zzu a.1 a.2)
abbrev GT:=QT3
def wrY (g:List GT) (m:List Cell) (x:TY):List Cell:=bif x.1==3||x.1==5 then ZaO g m x.2.1 x.2.2.1 else m
def wrL (g:List GT) (m:List Cell) (l:List TY):List Cell:=l.foldl (wrY g) m
def wrE (c:TC) (g:List GT) (m:List Cell) (e:EVTT):List Cell:=bif e.1==5 then ZaO g m e.2.2.2.2.2.2.2.2.1 e.2.2.2.2.2.2.2.2.2 else wrL g m (Zp c e)
def memF (g:List GT):TC->List Cell->List EVTT->List Cell
 |_,m,[]=>m
 |c,m,e::l=>memF g (Zan c e) (wrE c g m e) l
def memX (c:TC) (g:List GT) (m:List Cell) (l:List EVTT):List Cell:=memF g c (normX m) l
def wgh:List EVTT->Nat
 |[]=>0
 |e::l=>e.2.2.1.length+1+wgh l
theorem ZYs (g:List GT) (m:List Cell) (x:TY):(wrY g m x).length<=m.length+1:=by
 have:=Zf5 g m x.2.1 x.2.2.1;unfold wrY;cases x.1==3||x.1==5
 ·exact YaD _
 ·exact this
theorem ZAd (g:List GT):∀(l:List TY) (m:List Cell),(wrL g m l).length<=m.length+l.length
 |[],m=>Ye _
 |x::l,m=>by have h1:=ZAd g l (wrY g m x);have h2:=ZYs g m x;show (wrL g (wrY g m x) l).length<=_;simp only[List.length_cons];omega
theorem Zwt (c:TC) (e:EVTT):(Zp c e).length<=e.2.2.1.length:=by
 unfold Zp;cases cycE e.1
 ·exact Yu _
 ·exact ZTe _ _ _ _
theorem ZMc (c:TC) (g:List GT) (m:List Cell) (e:EVTT):(wrE c g m e).length<=m.length+(e.2.2.1.length+1):=by have h1:=Zf5 g m e.2.2.2.2.2.2.2.2.1 e.2.2.2.2.2.2.2.2.2;have h2:=ZAd g (Zp c e) m;have h3:=Zwt c e;unfold wrE;cases e.1==5<;>simp only[Ya,Yb]<;>omega
theorem ZTB (l:List EVTT) (i:Nat) (h:i<l.length):wgh (l.drop i)=(R.get Zbb l (i:Int)).2.2.1.length+1+wgh (l.drop (i+1)):=by rw[ZEE (r:=Zbb) l i h];rfl
theorem ZYp (g:List GT) (m:List Cell) (l:List TY) (i:Nat) (h:i<l.length):wrL g m (l.take (i+1))=wrY g (wrL g m (l.take i)) (R.get RY l (i:Int)):=by rw[ZAD (r:=RY) l i h];unfold wrL;rw[Yat];rfl
theorem smCm {l:List Cell} (h:l.length<=1000000000):smC l=true:=Zau (by have:=mst;omega)
theorem wr_b (c:TC) (g:List GT) (m:List Cell) (e:EVTT) (hg:smG g=true) (hm:m.length+(e.2.2.1.length+1)<=1000000000) (he:e.2.2.1.length<=1000000):Zjx c g m e=true/\Zl0 c g m e=wrE c g m e:=by
 have hms:=mst;have hcl:=Zwt c e;obtain⟨y,hy⟩:∃y,Zp c e=y:=⟨_,rfl⟩;rw[hy] at hcl;obtain⟨r,hr,h1⟩:=ZH (fl:=false) (t:=ZeB) (fuel:=λ_=>1000000000000)
  (λa=>∃i:Nat,i<=y.length/\a=(g,wrL g m (y.take i),y,(y.length:Int),(i:Int),c,e,()))
  (λa=>Int.toNat (a.2.2.2.1-a.2.2.2.2.1)) (λr=>r=(false,(g,wrL g m y,y,(y.length:Int),(y.length:Int),c,e,())))
  (by
   rintro a ⟨i,hi,rfl⟩;by_cases hlt:i<y.length
   ·left;have d:decide ((i:Int)<(y.length:Int))=true:=Yq (by omega);have hin:Ze (i:Int) y.length=true:=ZC.2 ⟨by omega,by omega⟩;have w:IntKind.wrap .i64 ((i:Int)+1)=((i+1:Nat):Int):=by rw[wrap_i64 _ (by omega) (by omega)];omega
    have hl:=ZAd g (y.take i) m;have hc:smC (wrL g m (y.take i))=true:=smCm (by rw[YD] at hl;omega);refine⟨(g,wrL g m (y.take (i+1)),y,(y.length:Int),((i+1:Nat):Int),c,e,()),?_,⟨i+1,by omega,rfl⟩,by simp only;omega⟩;rw[ZYp g m y i hlt];simp only[ZeB,RT.val,d,hin,w,hg,hc,YW,Yh,Ya];rfl
   ·right;left;have e1:i=y.length:=by omega
    subst e1;have d:decide ((y.length:Int)<(y.length:Int))=false:=Yv (by omega);refine⟨(g,wrL g m y,y,(y.length:Int),(y.length:Int),c,e,()),?_,rfl⟩;rw[YaR]
    simp only[ZeB,RT.val,d,Yb])
  (g,m,y,(y.length:Int),0,c,e,()) ⟨0,Yu _,rfl⟩ (by simp only;omega)
 rw[h1] at hr;have hre:Zqo e=true:=Zau he;have hc0:smC m=true:=smCm (by omega);have hv:(ZgV c g m e).val=some (wrE c g m e):=by unfold ZgV wrE;simp only[RT.val,hy,iN,hr,hre,hg,hc0,okB,getO,YW,Yh,Ya];cases e.1==5<;>rfl
 exact⟨by simp only[Zjx,hv];rfl,by simp only[Zl0,hv,getO]⟩
theorem mem_b (c:TC) (g:List GT) (m:List Cell) (l:List EVTT) (hg:smG g=true) (hm:m.length+wgh l<=1000000000) (hl:∀e∈l,e.2.2.1.length<=1000000) (hn:l.length<=1000000):
  ZwC c g m l=true/\ZER c g m l=memX c g m l:=by
 have hms:=mst;have hnl:=ZbU m;obtain⟨r,hr,z,h1⟩:=ZH (fl:=false) (t:=Zfo) (fuel:=λ_=>1000000000000)
  (λa=>∃(i:Nat) (c':TC) (m':List Cell),i<=l.length/\m'.length+wgh (l.drop i)<=1000000000/\memF g c' m' (l.drop i)=memX c g m l/\a=(g,m',l,(l.length:Int),(i:Int),c',()))
  (λa=>Int.toNat (a.2.2.2.1-a.2.2.2.2.1)) (λr=>∃z,r=(false,(g,memX c g m l,l,(l.length:Int),(l.length:Int),z,())))
  (by
   rintro a ⟨i,c',m',hi,hw,hf,rfl⟩;by_cases hlt:i<l.length
   ·left;have d:decide ((i:Int)<(l.length:Int))=true:=Yq (by omega);have hin:Ze (i:Int) l.length=true:=ZC.2 ⟨by omega,by omega⟩;have w:IntKind.wrap .i64 ((i:Int)+1)=((i+1:Nat):Int):=by rw[wrap_i64 _ (by omega) (by omega)];omega
    have hmem:R.get Zbb l (i:Int)∈l:=by
     have:R.get Zbb l (i:Int)=l[i]:=by simp[R.get,Yi hlt]
     rw[this];exact List.getElem_mem _
    rw[ZTB l i hlt] at hw;obtain⟨k1,k2⟩:=wr_b c' g m' (R.get Zbb l (i:Int)) hg (by omega) (hl _ hmem);have hlen:=ZMc c' g m' (R.get Zbb l (i:Int));rw[ZEE (r:=Zbb) l i hlt] at hf;refine⟨(g,wrE c' g m' (R.get Zbb l (i:Int)),l,(l.length:Int),((i+1:Nat):Int),Zan c' (R.get Zbb l (i:Int)),()),?_,⟨i+1,_,_,by omega,by omega,hf,rfl⟩,by simp only;omega⟩;simp only[Zfo,RT.val,d,hin,w,k1,k2,Yh,Ya]
   ·right;left;have e1:i=l.length:=by omega
    subst e1;have d:decide ((l.length:Int)<(l.length:Int))=false:=Yv (by omega);rw[YaS] at hf;refine⟨(g,memX c g m l,l,(l.length:Int),(l.length:Int),c',()),?_,c',rfl⟩;rw[<-hf]
    simp only[Zfo,RT.val,d,Yb,memF])
  (g,normX m,l,(l.length:Int),0,c,()) ⟨0,c,normX m,Yu _,by rw[List.drop_zero];omega,rfl,rfl⟩ (by simp only;omega)
 rw[h1] at hr;have hc0:smC m=true:=smCm (by omega);have hv:(ZjA c g m l).val=some (memX c g m l):=by simp only[ZjA,RT.val,iN,hr,hc0,okB,getO,Ya]
 exact⟨by simp only[ZwC,hv];rfl,by simp only[ZER,hv,getO]⟩
def ZI4 (g:List GT) (m:List Cell) (l:List EVTT):Bool:=smG g&&(Nat.ble (m.length+wgh l) 1000000000&&(Nat.ble l.length 1000000&&l.all Zqo))
theorem Zxy {g:List GT} {m:List Cell} {l:List EVTT}:ZI4 g m l=true↔smG g=true/\m.length+wgh l<=1000000000/\l.length<=1000000/\∀e∈l,e.2.2.1.length<=1000000:=by simp only[ZI4,Zqo,Yc,YH,Y2]
def ZjC:En:=Zg Zqb ZjB (λa=>some (ZI4 a.2.1 a.2.2.1 a.2.2.2)) (λa=>memX a.1 a.2.1 a.2.2.1 a.2.2.2)
theorem Zie:Za Tryz.prog 58 ZjC:=ZhQ ZL5 λa h=>by obtain⟨h1,h2,h3,h4⟩:=Zxy.1 h;exact mem_b a.1 a.2.1 a.2.2.1 a.2.2.2 h1 h2 h4 h3
end
end Go.Proofs.YtghoimllhpjkjaaGreat
