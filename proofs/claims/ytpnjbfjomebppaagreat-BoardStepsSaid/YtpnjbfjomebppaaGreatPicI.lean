import Derived.Test.YtpnjbfjomebppaaGreatIsaQ
open Go.IntKind (u8 u16 i64)
open Go Go.S3 Go.Proofs Go.Proofs.Cells
set_option linter.unusedVariables false
set_option linter.unusedSimpArgs false
set_option maxRecDepth 100000
namespace Go.Proofs.YtpnjbfjomebppaaGreat
noncomputable section
theorem smCb {l:List Cell} (h:l.length<=1000000):smC l=true:=ZV (by have:=mst;omega)
theorem smGb {l:List ZO} (h:l.length<=1000000):smG l=true:=ZV (by have:=mst;omega)
def Zm (b:BRDT) (s:SYST) (i:INPT):SYST:=(s.1,s.2.1,(bif !b.2.2.2.2.2.1 then ZaJ s.2.2.1 i.2.2.2.2.2.2.2.2.1 else s.2.2.1),s.2.2.2)
def ZbE (b:BRDT) (s:SYST) (i:INPT):LINT:=
 (i.1&&decide (ZaL s>=ZIw b s.1.2.2.2.1),i.2.1||Zn s.2.2.2.1,i.2.2.1,i.2.2.2.1,i.2.2.2.2.1,i.2.2.2.2.2.1,i.2.2.2.2.2.2.1,i.2.2.2.2.2.2.2.1,
  bif b.2.2.2.2.2.1 then andI .u8 i.2.2.2.2.2.2.2.2.1 1==1 else vInt s.2.2.1)
def busS (b:BRDT) (s:SYST) (i:INPT):SYST×Int:=
 let x:=s.1.2.2.2.1
 let q:=ZP b (IntKind.wrap .u8 x.2.1)
 let d:=ZbY b (IntKind.wrap .u8 x.2.1)
 bif i.2.2.1||(Zp s.1 !=3|| !ZaU x.1) then (s,0) else
 bif decide (x.1>=1)&&decide (x.1<=5) then (s,Zgw b.2.1 s.2.1 x.2.1) else
 bif x.1 !=6&&b.2.2.2.2.2.1 then (s,i.2.2.2.2.2.2.2.2.2) else
 bif x.1 !=6 then ((s.1,s.2.1,(vAck s.2.2.1).1,s.2.2.2),(vAck s.2.2.1).2) else
 bif q.2 then ((s.1,s.2.1,(ZiE s.2.2.1 q.1).1,s.2.2.2),(ZiE s.2.2.1 q.1).2) else
 bif d.2 then (s,ZhM s.2.2.2.1 d.1) else (s,i.2.2.2.2.2.2.2.2.2)
def Zf6 (b:BRDT) (s:SYST) (x:TY):SYST:=
 let q:=ZP b (IntKind.wrap .u8 x.2.1)
 let d:=ZbY b (IntKind.wrap .u8 x.2.1)
 bif x.1 !=7 then (s.1,ZaK b.2.1 s.2.1 x.2.1 x.2.2.1,s.2.2) else
 (s.1,s.2.1,(bif q.2 then Zba s.2.2.1 q.1 x.2.2.1 else s.2.2.1),(bif q.2 then s.2.2.2.1 else bif d.2 then ZdD s.2.2.2.1 d.1 x.2.2.1 else s.2.2.2.1),s.2.2.2.2.1,
  s.2.2.2.2.2++[(IntKind.wrap .u8 x.2.1,x.2.2.1)])
def ZPC (p:PICT) (n:Int):PICT:=
 (p.1,p.2.1,p.2.2.1,p.2.2.2.1,p.2.2.2.2.1,p.2.2.2.2.2.1,p.2.2.2.2.2.2.1,p.2.2.2.2.2.2.2.1,p.2.2.2.2.2.2.2.2.1,p.2.2.2.2.2.2.2.2.2.1,p.2.2.2.2.2.2.2.2.2.2.1,p.2.2.2.2.2.2.2.2.2.2.2.1,
  p.2.2.2.2.2.2.2.2.2.2.2.2.1,p.2.2.2.2.2.2.2.2.2.2.2.2.2.1,p.2.2.2.2.2.2.2.2.2.2.2.2.2.2.1,p.2.2.2.2.2.2.2.2.2.2.2.2.2.2.2.1,p.2.2.2.2.2.2.2.2.2.2.2.2.2.2.2.2.1,n,p.2.2.2.2.2.2.2.2.2.2.2.2.2.2.2.2.2.2)
def Ze6 (p:PINT):Bool:=p.2.2.2.2.2.2.2.2.2.2.2.2.2.2.2.1
def Z0 (s:SYST) (i:INPT):Bool:= !i.2.2.1&&(Zp s.1==3&&Zb2 s.1.2.2.2.1.1)
def ZeC (b:BRDT) (s:SYST) (i:INPT):SYST:=
 let t:=Zm b s i
 let u:=busS b t i
 ((Z2 u.1.1 (ZbE b t i) u.2),u.1.2.1,u.1.2.2.1,u.1.2.2.2.1,ZaL t,u.1.2.2.2.2.2)
def ZaH (b:BRDT) (s:SYST) (i:INPT):SYST:=bif Z0 s i then Zf6 b (ZeC b s i) s.1.2.2.2.1 else ZeC b s i
def pinS (b:BRDT) (s:SYST) (i:INPT):PINT:=Zcr (busS b (Zm b s i) i).1.1 (ZbE b (Zm b s i) i) (busS b (Zm b s i) i).2
def ZdM (b:BRDT) (s:SYST) (i:INPT):Bool:=Ze6 (pinS b s i)&&Zn (ZaH b s i).2.2.2.1
def ZgS (b:BRDT) (s:SYST) (i:INPT):SYST:=
 let w:=ZaH b s i
 bif ZdM b s i then (w.1,ZaK b.2.1 w.2.1 w.2.2.2.1.1 w.2.2.2.1.2.1,w.2.2.1,(IntKind.wrap .u16 (w.2.2.2.1.1+1),w.2.2.2.1.2.1,IntKind.wrap .i64 (w.2.2.2.1.2.2-1)),w.2.2.2.2) else w
def ZmU (s:SYST) (r:Bool):SYST:=bif r then (s.1,s.2.1,ZPC s.2.2.1 0,(s.2.2.2.1.1,s.2.2.2.1.2.1,0),s.2.2.2.2) else s
def Z4 (b:BRDT) (s:SYST) (i:INPT):SYST×PINT×LINT×Int×Cell×Bool:=
 (ZmU (ZgS b s i) i.2.2.1,pinS b s i,ZbE b (Zm b s i) i,(busS b (Zm b s i) i).2,
  (bif ZdM b s i then ((ZaH b s i).2.2.2.1.1,(ZaH b s i).2.2.2.1.2.1) else (0,0)),ZdM b s i)
theorem ZPd (b:BRDT) (x:TY) (hg:smG b.2.1=true):ZIv b x=true:=by
 unfold ZIv Zu9;simp only[RT.val,hg,Yh,Ya];cases decide (x.1>=1)&&decide (x.1<=5)
 ·cases x.1==6||x.1==7<;>rfl
 ·rfl
theorem ZFV (b:BRDT) (s:SYST) (i:INPT) (hg:smG b.2.1=true):ZrB b s i=true/\Zy3 b s i=ZbE b s i:=by
 have hv:(Zly b s i).val=some (ZbE b s i):=by unfold Zly ZbE;simp only[RT.val,ZTx,ZPd b _ hg,Yh,Ya,Yag]
 exact⟨by simp only[ZrB,hv];rfl,by simp only[Zy3,hv,getO]⟩
theorem ZTn (b:BRDT) (s:SYST) (i:INPT) (hg:smG b.2.1=true) (hc:smC s.2.1=true):ZTo b s i=true/\wBus b s i=busS b s i:=by
 have hv:(ZPi b s i).val=some (busS b s i):=by
  unfold ZPi busS;simp only[RT.val,ZIP,ZCQ,ZIJ,hg,hc,ZaM,Zae,R.sel_eq,YQ,Yh,Yf,Yi,Ya];cases i.2.2.1||(Zp s.1 !=3|| !ZaU s.1.2.2.2.1.1)
  ·cases decide (s.1.2.2.2.1.1>=1)&&decide (s.1.2.2.2.1.1<=5)
   ·cases s.1.2.2.2.1.1 !=6
    ·cases (ZP b (IntKind.wrap .u8 s.1.2.2.2.1.2.1)).2
     ·cases (ZbY b (IntKind.wrap .u8 s.1.2.2.2.1.2.1)).2<;>rfl
     ·rfl
    ·cases b.2.2.2.2.2.1<;>rfl
   ·rfl
  ·rfl
 exact⟨by simp only[ZTo,hv];rfl,by simp only[wBus,hv,getO]⟩
theorem ZIs (b:BRDT) (s:SYST) (x:TY) (hg:smG b.2.1=true) (hc:smC s.2.1=true) (ho:s.2.2.2.2.2.length<=1000000):Zy2 b s x=true/\ZIt b s x=Zf6 b s x:=by
 have hms:=mst;have h1:Nat.ble (List.length s.2.2.2.2.2) most=true:=ZV (by omega);have h2:∀y:Int×Int,Nat.ble (List.length (s.2.2.2.2.2++[y])) most=true:=λy=>ZV (by simp;omega)
 have hv:(Zrw b s x).val=some (Zf6 b s x):=by
  unfold Zrw Zf6;simp only[RT.val,Zvk,h1,h2,hg,hc,R.sel_eq,YQ,Yh,Yf,Yi,Ya,List.nil_append];cases x.1 !=7
  ·rfl
  ·rfl
 exact⟨by simp only[Zy2,hv];rfl,by simp only[ZIt,hv,getO]⟩
theorem Zf1 (b:BRDT) (s:SYST) (i:INPT):(busS b s i).1.1=s.1/\(busS b s i).1.2.1=s.2.1/\(busS b s i).1.2.2.2=s.2.2.2:=by
 unfold busS;dsimp only;cases i.2.2.1||(Zp s.1 !=3|| !ZaU s.1.2.2.2.1.1)
 ·cases decide (s.1.2.2.2.1.1>=1)&&decide (s.1.2.2.2.1.1<=5)
  ·cases s.1.2.2.2.1.1 !=6
   ·cases (ZP b (IntKind.wrap .u8 s.1.2.2.2.1.2.1)).2
    ·cases (ZbY b (IntKind.wrap .u8 s.1.2.2.2.1.2.1)).2<;>exact⟨rfl,rfl,rfl⟩
    ·exact⟨rfl,rfl,rfl⟩
   ·cases b.2.2.2.2.2.1<;>exact⟨rfl,rfl,rfl⟩
  ·exact⟨rfl,rfl,rfl⟩
 ·exact⟨rfl,rfl,rfl⟩
theorem ZvI (b:BRDT) (s:SYST) (x:TY):(Zf6 b s x).1=s.1/\(Zf6 b s x).2.1.length<=s.2.1.length+1/\(Zf6 b s x).2.2.2.2.2.length<=s.2.2.2.2.2.length+1:=by
 have:=Zix b.2.1 s.2.1 x.2.1 x.2.2.1;unfold Zf6;dsimp only;cases x.1 !=7
 ·exact⟨rfl,by simp only[Yc];omega,by simp only[Yc];simp⟩
 ·exact⟨rfl,by simp only[Ya];omega,by simp only[Ya];omega⟩
theorem ZFF (b:BRDT) (s:SYST) (i:INPT):(ZeC b s i).2.1=s.2.1/\(ZeC b s i).2.2.2.2.2=s.2.2.2.2.2:=by have h:=Zf1 b (Zm b s i) i;unfold ZeC;simp only[h.1,h.2.1,h.2.2];exact⟨rfl,rfl⟩
theorem Zu7 (b:BRDT) (s:SYST) (i:INPT):(ZaH b s i).1=(ZeC b s i).1/\(ZaH b s i).2.1.length<=s.2.1.length+1/\(ZaH b s i).2.2.2.2.2.length<=s.2.2.2.2.2.length+1:=by
 have h1:=ZFF b s i;have h2:=ZvI b (ZeC b s i) s.1.2.2.2.1;rw[h1.1,h1.2] at h2;unfold ZaH;cases Z0 s i
 ·exact⟨rfl,by simp only[Yc,h1.1];omega,by simp only[Yc,h1.2];omega⟩
 ·exact h2
theorem ZyL (b:BRDT) (s:SYST) (i:INPT):(Z4 b s i).1.1=(ZeC b s i).1/\(Z4 b s i).1.2.1.length<=s.2.1.length+2/\(Z4 b s i).1.2.2.2.2.2.length<=s.2.2.2.2.2.length+1:=by have h1:=Zu7 b s i;have h2:=Zix b.2.1 (ZaH b s i).2.1 (ZaH b s i).2.2.2.1.1 (ZaH b s i).2.2.2.1.2.1;unfold Z4 ZmU ZgS;dsimp only;cases ZdM b s i<;>cases i.2.2.1<;>simp only[Ya,Yc]<;>exact⟨h1.1,by omega,h1.2.2⟩
theorem ZIC (b:BRDT) (s:SYST) (i:INPT) (hg:smG b.2.1=true) (hc:s.2.1.length<=900000) (ho:s.2.2.2.2.2.length<=900000) (hk:s.1.2.2.1.length<=900000):
  Zy7 b s i=true/\ZID b s i=Z4 b s i:=by
 have hms:=mst;have hv:(ZrF b s i).val=some (Z4 b s i):=by
  have hr:(s.1,s.2.1,(bif !b.2.2.2.2.2.1 then ZaJ s.2.2.1 i.2.2.2.2.2.2.2.2.1 else s.2.2.1),s.2.2.2)=Zm b s i:=rfl;have h1:=ZFV b (Zm b s i) i hg;have h2:=ZTn b (Zm b s i) i hg (smCb (by show s.2.1.length<=_;omega));have h3:=Zf1 b (Zm b s i) i;have h4:Zh8 (busS b (Zm b s i) i).1.1=true:=by rw[h3.1];exact Zef.2 (by show s.1.2.2.1.length+1<=_;omega)
  have h5:=ZFF b s i;have h6:=ZIs b (ZeC b s i) s.1.2.2.2.1 hg (smCb (by rw[h5.1];omega)) (by rw[h5.2];omega);have h7:=Zu7 b s i
  have hcs:(Z2 (busS b (Zm b s i) i).1.1 (ZbE b (Zm b s i) i) (busS b (Zm b s i) i).2,(busS b (Zm b s i) i).1.2.1,(busS b (Zm b s i) i).1.2.2.1,(busS b (Zm b s i) i).1.2.2.2.1,ZaL (Zm b s i),
   (busS b (Zm b s i) i).1.2.2.2.2.2)=ZeC b s i:=rfl
  have ht:∀d:QT4,ZaI d=bif Zn d then ((IntKind.wrap .u16 (d.1+1),d.2.1,IntKind.wrap .i64 (d.2.2-1)),(d.1,d.2.1),true) else ((0,0,0),(0,0),false):=λd=>by unfold ZaI Zha;simp only[RT.val];cases Zn d<;>rfl
  have h8:smC (Zf6 b (ZeC b s i) s.1.2.2.2.1).2.1=true:=smCb (by have:=(ZvI b (ZeC b s i) s.1.2.2.2.1).2.1;rw[h5.1] at this;omega);have h9:smC (busS b (Zm b s i) i).1.2.1=true:=smCb (by rw[h3.2.1];show s.2.1.length<=_;omega);unfold ZrF;simp only[hr,RT.val,h1.1,h1.2,h2.1,h2.2,h4,clkX,hcs,h6.1,h6.2,ht,R.sel_eq,Yh,Ya];unfold Z4 ZmU ZgS ZdM ZaH Z0 pinS Ze6;dsimp only;cases !i.2.2.1&&(Zp s.1==3&&Zb2 s.1.2.2.2.1.1)
  ·simp only[Yc,h9,hg,YQ,Yh,Ya];cases (Zcr (busS b (Zm b s i) i).1.1 (ZbE b (Zm b s i) i) (busS b (Zm b s i) i).2).2.2.2.2.2.2.2.2.2.2.2.2.2.2.2.1
   ·cases i.2.2.1<;>rfl
   ·have e:Zn ((busS b (Zm b s i) i).1.2.2.2.1.1,(busS b (Zm b s i) i).1.2.2.2.1.2.1,(busS b (Zm b s i) i).1.2.2.2.1.2.2)=Zn (ZeC b s i).2.2.2.1:=rfl;rw[e];cases Zn (ZeC b s i).2.2.2.1<;>cases i.2.2.1<;>rfl
  ·simp only[Ya,h8,hg,YQ,Yh];cases (Zcr (busS b (Zm b s i) i).1.1 (ZbE b (Zm b s i) i) (busS b (Zm b s i) i).2).2.2.2.2.2.2.2.2.2.2.2.2.2.2.2.1
   ·cases i.2.2.1<;>rfl
   ·cases Zn (Zf6 b (ZeC b s i) s.1.2.2.2.1).2.2.2.1<;>cases i.2.2.1<;>rfl
 exact⟨by simp only[Zy7,hv];rfl,by simp only[ZID,hv,getO]⟩
def Zcz {α:Type} (l:List α) (f:α->α):List α:=match l.getLast? with
 |some y=>l.dropLast++[f y]
 |none=>[]
variable {α:Type}
theorem ZbR (l:List α) (y:α) (f:α->α):Zcz (l++[y]) f=l++[f y]:=by simp[Zcz]
def Zyi (Zz:TC) (l:List TC):TC:=l.getLastD Zz
theorem Zmi (l:List α) (y:α) (h:l.length<=1000000):IntKind.wrap .i64 (iN (l++[y]).length-1)=(l.length:Int):=by simp only[iN,Yd,List.length_cons,List.length_nil];rw[wrap_i64 _ (by omega) (by omega)];omega
theorem Zl7 {r:R} (l:List r.den) (y:r.den):R.get r (l++[y]) (l.length:Int)=y:=by simp[R.get]
theorem Zhk (l:List α) (y z:α):setI (l++[y]) (l.length:Int) z=l++[z]:=by simp[setI]
theorem ZlG (l:List α) (y:α):Zf (l.length:Int) (l++[y]).length=true:=Zx.2 ⟨by omega,by simp;omega⟩
def ZpW (t:Int):Int:=bif t==8 then 2 else bif t==9 then 3 else bif t==10 then 4 else 1
def cycN (c:CORT) (t:Int) (x:TY):TY:=bif t==8 then (0,0,0,0) else bif t==9 then (0,c.1.2.1.2.2.2.2.2.2.2.2.2,0,0) else bif t==10 then (0,0,0,0) else x
def ZNX (c:CORT):Bool:=c.1.2.2.1
def sodC (c:CORT):Bool:=c.1.2.2.2.2.2.2.2.2.2.2.2.2
def ZTX (y:ITMT) (k:Int) (c:CORT):Bool:=y.1==k&&(y.2.2.2.2.1==ZNX c&&y.2.2.2.2.2==sodC c)
def ZXt (y:ITMT):ITMT:=(y.1,y.2.1,y.2.2.1,IntKind.wrap .i64 (y.2.2.2.1+1),y.2.2.2.2)
def ZkG (l:List ITMT) (k:Int) (c:CORT) (n:ITMT):List ITMT:=match l.getLast? with
 |some y=>bif ZTX y k c then Zcz l ZXt else l++[n]
 |none=>l++[n]
def Zim (l:List ITMT) (c:CORT) (x:TY) (t:Int):List ITMT:=
 bif ZpW t !=1 then ZkG l (ZpW t) c (ZpW t,cycN c t x,0,1,ZNX c,sodC c)
 else bif t==1 then l++[(1,cycN c t x,0,1,ZNX c,sodC c)]
 else bif t==7 then Zcz l (λy=>(y.1,cycN c t x,IntKind.wrap .i64 (y.2.2.1+1),y.2.2.2))
 else Zcz l (λy=>(y.1,cycN c t x,y.2.2.1,IntKind.wrap .i64 (y.2.2.2.1+1),y.2.2.2.2))
def Zrt:TC:=(0,(0,0,0,0,0,0,0,(false,false,false,false,false,false,false),0,0),false,false,false,0,false,false,false,false,false,false,false)
def ZIp:LINT:=(false,false,false,false,false,false,false,false,false)
def rdS (c:CORT) (t d:Int):TY×List Int:=bif t !=3 then (c.2.2.2.1,c.2.2.1) else (ZdV c.1 c.2.2.2.1 d,c.2.2.1++[(ZdV c.1 c.2.2.2.1 d).2.2.1])
def finS (c:CORT) (l:LINT) (d:Int):TC×Bool:=
 bif l.2.2.1 then (Zrt,false) else
 bif !ZwQ c.2.2.2.2.1 (rdS c c.2.2.2.2.1 d).1 then (Zrt,false) else
 bif (Zh (Zi c.1 l) c.2.1 (rdS c c.2.2.2.2.1 d).2).2 then (Zrt,false) else (finX (Zi c.1 l) c.2.1 (rdS c c.2.2.2.2.1 d).2 l,true)
def Zg5 (c:CORT) (t d:Int):List Int:=bif t==3 then c.2.2.1++[(Zag c t d).2.2.1] else c.2.2.1
def evE (ev:List EVTT) (c:CORT) (l:LINT) (d:Int) (cell:Cell) (moved:Bool):List EVTT:=
 let e1:=bif (finS c l d).2 then ev++[ZFT (ZPe c.2.1,c.2.1,Zg5 c (Zp c) d,ZIp,false,false,false,false,0,0) (Zi c.1 l) l] else ev
 bif l.2.2.1 then (bif ZgC c then ev++[ZFT (6,c.2.1,c.2.2.1,ZIp,false,false,false,false,0,0) c.1 l] else ev)++[ZFT (4,0,[],ZIp,false,false,false,false,0,0) c.1 l]
 else bif moved then e1++[(5,0,[],ZIp,false,false,false,false,cell)] else e1
def evC (cp:List TC) (Zz:TC) (c:CORT) (after:CORT) (l:LINT) (d:Int) (moved:Bool):List TC:=
 let c1:=bif (finS c l d).2 then cp++[(finS c l d).1] else cp
 bif l.2.2.1 then (bif ZgC c then cp++[Zyi Zz cp] else cp)++[after.1]
 else bif moved then c1++[Zyi Zz cp] else c1
abbrev STT:=SYST×List PINT×List ITMT×List EVTT×List TC
def nowS (s:SYST) (i:INPT):Int:=bif i.2.2.1 then 10 else Zp s.1
def Zcp (b:BRDT) (Zz:TC) (st:STT) (i:INPT):STT:=
 let k:=Z4 b st.1 i
 (k.1,st.2.1++[k.2.1],Zim st.2.2.1 st.1.1 (Zag st.1.1 (nowS st.1 i) k.2.2.2.1) (nowS st.1 i),
  evE st.2.2.2.1 st.1.1 k.2.2.1 k.2.2.2.1 k.2.2.2.2.1 k.2.2.2.2.2,evC st.2.2.2.2 Zz st.1.1 k.1.1 k.2.2.1 k.2.2.2.1 k.2.2.2.2.2)
structure RunOk (b:BRDT) (st:STT) (n:Nat):Prop where
 g:smG b.2.1=true
 m:st.1.2.1.length<=100000+2*n
 o:st.1.2.2.2.2.2.length<=n
 k:st.1.1.2.2.1.length<=n
 t:st.2.1.length<=n
 it:st.2.2.1.length<=n
 ev:st.2.2.2.1.length<=2*n
 cp:st.2.2.2.2.length<=2*n
 ne:st.2.2.1=[]->Zp st.1.1=1
theorem ZPW (c:CORT) (t d:Int) (h:c.2.2.1.length<=1000000):ZKd c t d=true/\ZKe c t d=rdS c t d:=by
 have hms:=mst;have h1:Nat.ble (List.length c.2.2.1) most=true:=ZV (by omega);have h2:∀y:Int,Nat.ble (List.length (c.2.2.1++[y])) most=true:=λy=>ZV (by simp;omega)
 have hv:(ZDr c t d).val=some (rdS c t d):=by unfold ZDr rdS ZdV;simp only[RT.val,h1,h2,List.nil_append,Yh,Ya];cases t !=3<;>rfl
 exact⟨by simp only[ZKd,hv];rfl,by simp only[ZKe,hv,getO]⟩
theorem ZTm (c:CORT) (l:LINT) (d:Int) (h:c.2.2.1.length<=1000000):ZjW c l d=true/\Zmn c l d=finS c l d:=by
 have h1:=ZPW c c.2.2.2.2.1 d h;have hv:(Zg8 c l d).val=some (finS c l d):=by
  unfold Zg8 finS;simp only[RT.val,h1.1,h1.2,Ya];cases l.2.2.1
  ·cases ZwQ c.2.2.2.2.1 (rdS c c.2.2.2.2.1 d).1
   ·rfl
   ·cases (Zh (Zi c.1 l) c.2.1 (rdS c c.2.2.2.2.1 d).2).2<;>rfl
  ·rfl
 exact⟨by simp only[ZjW,hv];rfl,by simp only[Zmn,hv,getO]⟩
theorem ZIF (c:CORT) (t d:Int) (h:c.2.2.1.length<=1000000):Zy8 c t d=true/\ZIG c t d=Zg5 c t d:=by
 have hms:=mst;have h1:Nat.ble (List.length c.2.2.1) most=true:=ZV (by omega);have h2:∀y:Int,Nat.ble (List.length (c.2.2.1++[y])) most=true:=λy=>ZV (by simp;omega)
 have hv:(ZrG c t d).val=some (Zg5 c t d):=by unfold ZrG Zg5;simp only[RT.val,h1,h2,List.nil_append,Yh,Ya]
 exact⟨by simp only[Zy8,hv];rfl,by simp only[ZIG,hv,getO]⟩
theorem ZFg (Zz:TC) (l:List TC) (h:l.length<=1000000):
  (!decide (iN l.length>0)||Zf (IntKind.wrap .i64 (iN l.length-1)) l.length)=true/\R.sel ZY (decide (iN l.length>0)) (R.get ZY l (IntKind.wrap .i64 (iN l.length-1))) Zz=Zyi Zz l:=by
 rcases Yao l with rfl|⟨l',y,rfl⟩
 ·exact⟨rfl,by rw[R.sel_eq];rfl⟩
 ·simp only[Yap,Yd,List.length_singleton] at h|-;have w:=Zmi l' y (by omega);have d:decide (iN (l'.length+1)>0)=true:=YA (by simp only[iN];omega);simp only[Yd,List.length_singleton] at w;rw[w,d,R.sel_eq];have:=ZlG l' y;simp only[Yd,List.length_singleton] at this;rw[this];exact⟨rfl,by simp only[Ya,Zyi];rw[show R.get ZY (l'++[y]) (l'.length:Int)=y from Zl7 (r:=ZY) l' y];simp⟩
theorem ZJS (b:BRDT) (l:List INPT) (i:Nat) (r0:RUNT) (s0:SYST) (Zz:TC) (st:STT) (n:Nat) (h:RunOk b st n) (hi:i<l.length) (hl:l.length<=100000) (hn:n<=200000):
  (Zgk (l,(l.length:Int),(i:Int),b,r0,st.1,s0,Zz,st.2.1,st.2.2.1,st.2.2.2.1,st.2.2.2.2,())).val=
   some (Go1.cont (l,(l.length:Int),((i+1:Nat):Int),b,r0,(Zcp b Zz st (R.get Zbt l (i:Int))).1,s0,Zz,(Zcp b Zz st (R.get Zbt l (i:Int))).2.1,(Zcp b Zz st (R.get Zbt l (i:Int))).2.2.1,
    (Zcp b Zz st (R.get Zbt l (i:Int))).2.2.2.1,(Zcp b Zz st (R.get Zbt l (i:Int))).2.2.2.2,())):=by
 have hms:=mst;obtain⟨s,tr,it,ev,cp⟩:=st;obtain⟨g,m,o,k,t,hit,hev,hcp,ne⟩:=h;simp only at g m o k t hit hev hcp ne;have d:decide ((i:Int)<(l.length:Int))=true:=YA (by omega);have hin:Zf (i:Int) l.length=true:=Zx.2 ⟨by omega,by omega⟩;have w:IntKind.wrap .i64 ((i:Int)+1)=((i+1:Nat):Int):=by rw[wrap_i64 _ (by omega) (by omega)];omega
 obtain⟨q,hq⟩:∃q,R.get Zbt l (i:Int)=q:=⟨_,rfl⟩;rw[hq];have hc:=ZIC b s q g (by omega) (by omega) (by omega);have hf:=ZTm s.1 (Z4 b s q).2.2.1 (Z4 b s q).2.2.2.1 (by omega);have hb:=ZIF s.1 (Zp s.1) (Z4 b s q).2.2.2.1 (by omega);have hlc:=ZFg Zz cp (by omega);have htr:∀x:PINT,Nat.ble (tr++[x]).length most=true:=λx=>ZV (by simp;omega)
 have he1:∀x:EVTT,Nat.ble (ev++[x]).length most=true:=λx=>ZV (by simp;omega)
 have he2:∀(c:Bool) (x y:EVTT),Nat.ble ((bif c then ev++[x] else ev)++[y]).length most=true:=λc x y=>ZV (by cases c<;>simp<;>omega)
 have hc1:∀x:TC,Nat.ble (cp++[x]).length most=true:=λx=>ZV (by simp;omega)
 have hc2:∀(c:Bool) (x y:TC),Nat.ble ((bif c then cp++[x] else cp)++[y]).length most=true:=λc x y=>ZV (by cases c<;>simp<;>omega)
 have hg:Nat.ble (List.length s.1.2.2.1) most=true:=ZV (by omega);obtain⟨T,hT⟩:∃T,(bif q.2.2.1 then (10:Int) else Zp s.1)=T:=⟨_,rfl⟩;have hT':nowS s q=T:=hT;rcases Yao it with rfl|⟨it',y,rfl⟩
 ·have hTT:T=1\/T=10:=by
   rw[<-hT,ne rfl];cases q.2.2.1
   ·exact .inl rfl
   ·exact .inr rfl
  have w0:IntKind.wrap .i64 (iN ([]:List ITMT).length-1)= -1:=by decide
  have w1:decide ((-1:Int)>=0)=false:=by decide
  have w2:Zf (-1) ([]:List ITMT).length=false:=by decide
  have hi1:∀x:ITMT,Nat.ble [x].length most=true:=λx=>ZV (by simp;omega)
  unfold Zgk;rcases hTT with rfl|rfl
  ·have e1:((1:Int)==1)=true:=rfl;have e8:((1:Int)==8)=false:=rfl;have e9:((1:Int)==9)=false:=rfl;have e10:((1:Int)==10)=false:=rfl;have e7:((1:Int)==7)=false:=rfl;have n1:((1:Int) !=1)=false:=rfl;simp only[RT.val,d,hin,w,hq,hT,hc.1,hc.2,hf.1,hf.2,hb.1,hb.2,hlc.1,hlc.2,htr,hi1,he1,he2,hc1,hc2,hg,w0,w1,w2,e1,e8,e9,e10,e7,n1,List.nil_append,ZaM,Zae,Yh,Yv,Yf,Yi,Yt,Ym,Yar,YT,YK,Yab,Ya,Yc];unfold Zcp;rw[hT'];simp only[Zim,ZpW,cycN,e1,e8,e9,e10,e7,n1,Ya,Yc,List.nil_append];rfl
  ·have e1:((10:Int)==1)=false:=rfl;have e8:((10:Int)==8)=false:=rfl;have e9:((10:Int)==9)=false:=rfl;have e10:((10:Int)==10)=true:=rfl;have e7:((10:Int)==7)=false:=rfl;have n1:((4:Int) !=1)=true:=rfl;simp only[RT.val,d,hin,w,hq,hT,hc.1,hc.2,hf.1,hf.2,hb.1,hb.2,hlc.1,hlc.2,htr,hi1,he1,he2,hc1,hc2,hg,w0,w1,w2,e1,e8,e9,e10,e7,n1,List.nil_append,ZaM,Zae,Yh,Yv,Yf,Yi,Yt,Ym,Yar,YT,YK,Yab,Ya,Yc];unfold Zcp;rw[hT'];simp only[Zim,ZpW,cycN,ZkG,List.getLast?_nil,e1,e8,e9,e10,e7,n1,Ya,Yc,List.nil_append];rfl
 ·simp only[Yap] at hit|-;have hlen:it'.length<=1000000:=by simp at hit;omega
  have w0:=Zmi it' y hlen;have w1:decide ((it'.length:Int)>=0)=true:=YA (by omega);have w2:=λz:ITMT=>ZlG it' z
  have w3:=λz:ITMT=>Zl7 (r:=Zkc) it' z
  have w4:=λz:ITMT=>Zhk it' y z
  have w5:=λz z2:ITMT=>Zhk it' z z2
  have hi1:∀x:ITMT,Nat.ble (it'++[y]++[x]).length most=true:=λx=>ZV (by simp at hit|-;omega)
  have hj:∀f:ITMT->ITMT,Zcz (it'++[y]) f=it'++[f y]:=ZbR it' y;unfold Zgk;simp only[RT.val,d,hin,w,hq,hT,hc.1,hc.2,hf.1,hf.2,hb.1,hb.2,hlc.1,hlc.2,htr,hi1,he1,he2,hc1,hc2,hg,w0,w1,w2,w3,w4,w5,List.nil_append,ZaM,Zae,Yh,Yv,Yf,Yi,Yt,Ym,Yar,YT,YK,Yab,Ya,Yc];unfold Zcp;rw[hT'];simp only[Zim,ZpW,cycN,ZkG,List.getLast?_concat,hj,ZTX,ZXt];cases T==8<;>cases T==9<;>cases T==10<;>rfl
theorem ZIf (c:CORT) (l:LINT) (d:Int):(Z2 c l d).2.2.1.length<=c.2.2.1.length+1:=by
 have he:∀(c:TC) (s:Int) (g:List Int) (h:Bool) (l:LINT),(endX c s g h l).2.2.1.length<=g.length:=by
  intro c s g h l;unfold endX;cases (Zh c s g).2
  ·exact Yu _
  ·exact Ye _
 unfold Z2;dsimp only;cases l.2.2.1
 ·cases Zaf c.2.2.2.2.1==1
  ·cases Zaf c.2.2.2.2.1==2||Zaf c.2.2.2.2.1==7
   ·cases Zaf c.2.2.2.2.1==8
    ·cases Zaf c.2.2.2.2.1==9
     ·cases Zaf c.2.2.2.2.1==3
      ·cases decide (Zaf c.2.2.2.2.1<c.2.2.2.1.2.2.2)&& !(Zaf c.2.2.2.2.1==6)
       ·exact YS (he _ _ _ _ _) (YaO _)
       ·exact YaO _
      ·cases le3 (ZdV (Zi c.1 l) c.2.2.2.1 d).2.2.2
       ·simp only[Ya,Yc,Yd,List.length_singleton];omega
       ·exact YS (he _ _ _ _ _) (by simp)
     ·cases Zei (Zi c.1 l) l==0
      ·exact Yu _
      ·exact YaO _
    ·exact YaO _
   ·cases l.1|| !Zad c.2.2.2.1.1<;>exact YaO _
  ·exact YaO _
 ·exact Yu _
theorem Zrl (b:BRDT) (s:SYST) (i:INPT):(Z4 b s i).1.1=Z2 s.1 (ZbE b (Zm b s i) i) (busS b (Zm b s i) i).2:=by rw[(ZyL b s i).1];show Z2 (busS b (Zm b s i) i).1.1 _ _=_;rw[(Zf1 b (Zm b s i) i).1];rfl
theorem ZHE (l:List α) (f:α->α):(Zcz l f).length=l.length:=by
 rcases Yao l with rfl|⟨l',y,rfl⟩
 ·rfl
 ·rw[Yap,ZbR];simp
theorem ZNR (l:List ITMT) (k:Int) (c:CORT) (n:ITMT):(ZkG l k c n).length<=l.length+1/\ZkG l k c n≠[]:=by
 unfold ZkG;rcases Yao l with rfl|⟨l',y,rfl⟩
 ·exact⟨by simp,by simp⟩
 ·rw[Yap,List.getLast?_concat];dsimp only;cases ZTX y k c
  ·exact⟨by simp,by simp⟩
  ·simp only[Ya];rw[ZbR];exact⟨by simp,by simp⟩
theorem ZNU (l:List ITMT) (c:CORT) (x:TY) (t:Int) (h:l=[]->t=1\/t=10):(Zim l c x t).length<=l.length+1/\Zim l c x t≠[]:=by
 have hj:=ZNR l (ZpW t) c (ZpW t,cycN c t x,0,1,ZNX c,sodC c);have ho:∀f:ITMT->ITMT,l≠[]->(Zcz l f).length<=l.length+1/\Zcz l f≠[]:=λf hl=>by have:=ZHE l f;refine⟨by omega,λe=>hl ?_⟩;rw[e] at this;exact Y2.1 this.symm
 unfold Zim;cases hk:ZpW t !=1
 ·cases h1:t==1
  ·have hl:l≠[]:=λe=>by
    rcases h e with rfl|rfl
    ·simp at h1
    ·simp[ZpW] at hk
   cases t==7
   ·exact ho _ hl
   ·exact ho _ hl
  ·exact⟨by simp,by simp⟩
 ·exact hj
theorem ZVo (s:SYST) (i:INPT) (h:Zp s.1=1):nowS s i=1\/nowS s i=10:=by
 unfold nowS;rw[h];cases i.2.2.1
 ·exact .inl rfl
 ·exact .inr rfl
theorem ZVX (ev:List EVTT) (c:CORT) (l:LINT) (d:Int) (cell:Cell) (moved:Bool):(evE ev c l d cell moved).length<=ev.length+2:=by
 unfold evE;dsimp only;cases l.2.2.1
 ·cases (finS c l d).2<;>cases moved<;>simp
 ·cases ZgC c<;>simp
theorem ZVY (cp:List TC) (Zz:TC) (c after:CORT) (l:LINT) (d:Int) (moved:Bool):(evC cp Zz c after l d moved).length<=cp.length+2:=by
 unfold evC;dsimp only;cases l.2.2.1
 ·cases (finS c l d).2<;>cases moved<;>simp
 ·cases ZgC c<;>simp
theorem ZPN (b:BRDT) (Zz:TC) (st:STT) (i:INPT) (n:Nat) (h:RunOk b st n):RunOk b (Zcp b Zz st i) (n+1):=by
 have hc:=ZyL b st.1 i;have hi:=ZNU st.2.2.1 st.1.1 (Zag st.1.1 (nowS st.1 i) (Z4 b st.1 i).2.2.2.1) (nowS st.1 i) (λe=>ZVo st.1 i (h.ne e));refine⟨h.g,?_,?_,?_,?_,?_,?_,?_,?_⟩
 ·have:=h.m;show (Z4 b st.1 i).1.2.1.length<=_;omega
 ·have:=h.o;show (Z4 b st.1 i).1.2.2.2.2.2.length<=_;omega
 ·have:=h.k;show (Z4 b st.1 i).1.1.2.2.1.length<=_;rw[Zrl];have:=ZIf st.1.1 (ZbE b (Zm b st.1 i) i) (busS b (Zm b st.1 i) i).2;omega
 ·have:=h.t;show (st.2.1++[_]).length<=_;simp;omega
 ·have:=h.it;exact YS hi.1 (by omega)
 ·have:=h.ev;exact YS (ZVX _ _ _ _ _ _) (by omega)
 ·have:=h.cp;exact YS (ZVY _ _ _ _ _ _ _) (by omega)
 ·intro e;exact absurd e hi.2
def Zal (b:BRDT) (Zz:TC) (st:STT) (l:List INPT):STT:=l.foldl (Zcp b Zz) st
theorem Zir (b:BRDT) (Zz:TC):∀(l:List INPT) (st:STT) (n:Nat),RunOk b st n->RunOk b (Zal b Zz st l) (n+l.length)
 |[],st,n,h=>h
 |i::l,st,n,h=>by have:=Zir b Zz l (Zcp b Zz st i) (n+1) (ZPN b Zz st i n h);rw[show n+(i::l).length=n+1+l.length by simp;omega];exact this
theorem ZmK (l:List α) (d:α) (i:Nat) (h:i<l.length):l.take (i+1)=l.take i++[l.getD i d]:=by rw[YaP,Yq,Yk h];rfl
theorem ZPJ (b:BRDT) (l:List INPT) (r0:RUNT) (s0:SYST) (Zz:TC) (st:STT) (h:RunOk b st 0) (hl:l.length<=70000):
  runF false Zgk (λ_=>1000000000000) (l,(l.length:Int),0,b,r0,st.1,s0,Zz,st.2.1,st.2.2.1,st.2.2.2.1,st.2.2.2.2,())=
   some (false,(l,(l.length:Int),(l.length:Int),b,r0,(Zal b Zz st l).1,s0,Zz,(Zal b Zz st l).2.1,(Zal b Zz st l).2.2.1,(Zal b Zz st l).2.2.2.1,(Zal b Zz st l).2.2.2.2,())):=by
 obtain⟨r,hr,h1⟩:=ZC (fl:=false) (t:=Zgk) (fuel:=λ_=>1000000000000)
  (λa=>∃i:Nat,i<=l.length/\a=(l,(l.length:Int),(i:Int),b,r0,(Zal b Zz st (l.take i)).1,s0,Zz,(Zal b Zz st (l.take i)).2.1,(Zal b Zz st (l.take i)).2.2.1,(Zal b Zz st (l.take i)).2.2.2.1,(Zal b Zz st (l.take i)).2.2.2.2,()))
  (λa=>Int.toNat (a.2.1-a.2.2.1)) (λr=>r=(false,(l,(l.length:Int),(l.length:Int),b,r0,(Zal b Zz st l).1,s0,Zz,(Zal b Zz st l).2.1,(Zal b Zz st l).2.2.1,(Zal b Zz st l).2.2.2.1,(Zal b Zz st l).2.2.2.2,())))
  (by
   rintro a ⟨i,hi,rfl⟩;by_cases hlt:i<l.length
   ·left;have hk:=Zir b Zz (l.take i) st 0 h;have hv:=ZJS b l i r0 s0 Zz (Zal b Zz st (l.take i)) _ hk hlt (by omega) (by simp;omega);refine⟨_,hv,⟨i+1,hlt,?_⟩,by simp only;omega⟩;have e:Zal b Zz st (l.take (i+1))=Zcp b Zz (Zal b Zz st (l.take i)) (R.get Zbt l (i:Int)):=by rw[ZmK l Zbt.Df i hlt];simp only[Zal,YaF,List.foldl_cons,List.foldl_nil];rfl
    rw[e]
   ·right;left;have e:i=l.length:=by omega
    subst e;have d:decide ((l.length:Int)<(l.length:Int))=false:=YV (by omega);rw[List.take_length]
    exact⟨_,by simp only[Zgk,RT.val,d,Yc],rfl⟩)
  (l,(l.length:Int),0,b,r0,st.1,s0,Zz,st.2.1,st.2.2.1,st.2.2.2.1,st.2.2.2.2,()) ⟨0,Yu _,rfl⟩ (by simp only;omega)
 rw[h1] at hr;exact hr
def ZcN (b:BRDT):STT:=((wNew b).1,[],[],[],[])
def Zbb (b:BRDT):TC:=(wNew b).1.1.1
def Zmh:SYST:=((Zrt,0,[],(0,0,0,0),0,false),[],(0,false,false,false,false,0,0,false,false,false,false,false,0,0,0,0,0,0,0,false),(0,0,0),0,[])
theorem Ziz (b:BRDT) (hg:smG b.2.1=true) (hm:smC b.2.2.2.2.2.2=true):ZjU b=true:=by
 unfold ZjU Zfw;simp only[RT.val,hg,hm,Yh,Ya];cases b.1 !=1&&b.1 !=2
 ·cases ZbS b.2.1 !=0
  ·cases decide (b.2.2.1<0)||(decide (b.2.2.1>100)|| !vldB b.2.2.2.2.2.2)<;>rfl
  ·rfl
 ·rfl
def newS (b:BRDT):SYST:=((((newX b.1).1.1,(0,0,0,0,0,0,0,(false,false,false,false,false,false,false),0,0),false,false,false,(newX b.1).1.2.2.2.2.2.1,false,false,false,false,false,false,false),0,[],(1,0,0,4),1,false),
 normX b.2.2.2.2.2.2,(0,false,false,false,false,0,0,false,false,false,false,false,0,0,0,0,7,0,0,false),(0,0,0),0,[])
theorem ZjV (b:BRDT) (hg:smG b.2.1=true) (hm:b.2.2.2.2.2.2.length<=100000):ZPc b=true/\(wNew b).2=ZbM b/\((wNew b).2=0->RunOk b (ZcN b) 0/\(wNew b).1.2.1=normX b.2.2.2.2.2.2):=by
 have hc:=smCb (l:=b.2.2.2.2.2.2) (by omega);have hv:(ZrA b).val=some (bif ZbM b !=0 then (Zmh,ZbM b) else ((newS b),0)):=by unfold ZrA;simp only[RT.val,Ziz b hg hc,hc,Ya];cases ZbM b !=0<;>rfl
 refine⟨by simp only[ZPc,hv];rfl,?_,?_⟩
 ·simp only[wNew,hv,getO];cases hx:ZbM b !=0
  ·simp at hx;exact hx.symm
  ·rfl
 ·intro h0;have hx:(ZbM b !=0)=false:=by
   cases hx:ZbM b !=0
   ·rfl
   ·simp only[wNew,hv,getO,hx,Ya] at h0;rw[h0] at hx;simp at hx
  have e:wNew b=((newS b),0):=by simp only[wNew,hv,getO,hx,Yc]
  have hn:=Zep b.2.2.2.2.2.2;unfold ZcN;rw[e];exact⟨⟨hg,by show (normX b.2.2.2.2.2.2).length<=_;omega,Ye _,Ye _,Ye _,Ye _,Ye _,Ye _,λ_=>rfl⟩,rfl⟩
def endS (Zz:TC) (st:STT):RUNT:=
 (st.2.1,st.2.2.1,bif ZgC st.1.1 then st.2.2.2.1++[(7,st.1.1.2.1,st.1.1.2.2.1,ZIp,false,false,false,false,0,0)] else st.2.2.2.1,bif ZgC st.1.1 then st.2.2.2.2++[Zyi Zz st.2.2.2.2] else st.2.2.2.2,st.1)
def ZbX (b:BRDT) (l:List INPT):RUNT×Int:=bif (wNew b).2 !=0 then (([],[],[],[],Zmh),(wNew b).2) else (endS (Zbb b) (Zal b (Zbb b) (ZcN b) l),0)
theorem ZTj (b:BRDT) (l:List Int) (hg:smG b.2.1=true) (hm:b.2.2.2.2.2.2.length<=100000) (hl:l.length<=4000):ZTk b l=true/\wRun b l=ZbX b (ZaB l):=by
 have hms:=mst;have hd:=Zp3 l hl;have hn:=ZjV b hg hm;have hv:(ZPb b l).val=some (ZbX b (ZaB l)):=by
  unfold ZPb ZbX;cases hx:(wNew b).2 !=0
  ·have h0:(wNew b).2=0:=by simpa using hx
   have hi:=(hn.2.2 h0).1;have hf:=Zir b (Zbb b) (ZaB l) (ZcN b) 0 hi;have hr:=ZPJ b (ZaB l) ([],[],[],[],Zmh) Zmh (Zbb b) (ZcN b) hi (by omega);have hr':runF false Zgk (λ_=>1000000000000) (ZaB l,iN (ZaB l).length,0,b,([],[],[],[],((0,(0,0,0,0,0,0,0,(false,false,false,false,false,false,false),0,0),false,false,false,0,false,false,false,false,false,false,false),0,[],(0,0,0,0),0,false),[],(0,false,false,false,false,0,0,false,false,false,false,false,0,0,0,0,0,0,0,false),(0,0,0),0,[]),(wNew b).1,(((0,(0,0,0,0,0,0,0,(false,false,false,false,false,false,false),0,0),false,false,false,0,false,false,false,false,false,false,false),0,[],(0,0,0,0),0,false),[],(0,false,false,false,false,0,0,false,false,false,false,false,0,0,0,0,0,0,0,false),(0,0,0),0,[]),(wNew b).1.1.1,[],[],[],[],())=some (false,(ZaB l,((ZaB l).length:Int),((ZaB l).length:Int),b,([],[],[],[],Zmh),(Zal b (Zbb b) (ZcN b) (ZaB l)).1,Zmh,Zbb b,(Zal b (Zbb b) (ZcN b) (ZaB l)).2.1,(Zal b (Zbb b) (ZcN b) (ZaB l)).2.2.1,(Zal b (Zbb b) (ZcN b) (ZaB l)).2.2.2.1,(Zal b (Zbb b) (ZcN b) (ZaB l)).2.2.2.2,())):=hr;simp only[RT.val,hn.1,hd.1,hr',hx,okB,getO,Ya,Yc];obtain⟨st,hst⟩:∃st,Zal b (Zbb b) (ZcN b) (ZaB l)=st:=⟨_,rfl⟩;rw[hst] at hf|-;have hk:=hf.k;have he:=hf.ev;have hc:=hf.cp;have hdl:=hd.2;have hlc:=ZFg (Zbb b) st.2.2.2.2 (by omega);have b1:Nat.ble (List.length st.1.1.2.2.1) most=true:=ZV (by omega);have b2:∀x:EVTT,Nat.ble (List.length (st.2.2.2.1++[x])) most=true:=λx=>ZV (by simp;omega)
   have b3:∀x:TC,Nat.ble (List.length (st.2.2.2.2++[x])) most=true:=λx=>ZV (by simp;omega)
   simp only[hlc.1,hlc.2,b1,b2,b3,List.nil_append,Yh,Yf,Yi,Ya];unfold endS;cases ZgC st.1.1<;>rfl
  ·simp only[RT.val,hn.1,hx,Ya];rfl
 exact⟨by simp only[ZTk,hv];rfl,by simp only[wRun,hv,getO]⟩
end
end Go.Proofs.YtpnjbfjomebppaaGreat
open Go.Proofs.Tryz (prog)
open Go Go.S3 Go.Proofs
namespace Go.Proofs.YtpnjbfjomebppaaGreat
noncomputable section
abbrev ZaR:R:=R.int u8
abbrev ZaS:Nat:=5
abbrev ZjX:List Sh:=[Sh.one (R.sl Zbt)]
def Zy6:LS:={n:=64,Sl:=[(3,.tip 0),(7,.code (Sh.one (R.sl Zbt))),(8,.code (Sh.one (R.int i64))),(9,.code (Sh.one (R.int i64)))],Bx:=[],Sg:=[⟨(R.int u8),5,false⟩]}
def Zh0 (a:List INPT×Int×Int×List Int×PUnit):RT (Option (Go1 (List INPT×Int×Int×List Int×PUnit))):=
 let x1:INPT:=R.get Zbt a.1 a.2.2.1
 let x2:= !x1.1
 let x3:=Zfz x2 0
 let x4:= !x3
 let x5:=x1.2
 let x6:=x5.1
 let x7:=Zfz x6 1
 let x8:= !x7
 let x9:=x5.2
 let x10:=x9.1
 let x11:=Zfz x10 2
 let x12:= !x11
 let x13:=x9.2
 let x14:=x13.1
 let x15:=Zfz x14 3
 let x16:= !x15
 let p1:=x16::x12::x8::x4::[]
 let x17:=x13.2
 let x18:=x17.1
 let x19:=Zfz x18 4
 let x20:= !x19
 let p3:=x20::p1
 let x21:=x17.2
 let x22:=x21.1
 let x23:=Zfz x22 5
 let x24:= !x23
 let p6:=x24::p3
 let x25:=x21.2
 let x26:=x25.1
 let x27:=Zfz x26 6
 let p7:=(!x27)::p6
 let x28:=x25.2
 let x29:=x28.1
 let x30:=orR p7 (Zfz x29 7)
 let x31:= !x30
 let x32:=orR p6 x27
 let x33:= !x32
 let p2:=x33::x31::(decide (a.2.2.1>=65536))::(!Zf a.2.2.1 (List.length a.1))::[]
 let x34:=orR p3 x23
 let x35:= !x34
 let p4:=x35::p2
 let x36:=orR p1 x19
 let x37:= !x36
 let p5:=x37::p4
 let x38:=x4||(x8||(x12||x15))
 let x39:= !x38
 let p8:=x39::p5
 let x40:=x4||(x8||x11)
 let x41:= !x40
 let p9:=x41::p8
 let x42:=x4||x7
 let x43:= !x42
 let p10:=x43::p9
 let p11:=x4::p10
 let x44:=orI u8 (orI u8 (orI u8 (orI u8 (orI u8 (orI u8 (orI u8 (wBit x2 0) (wBit x6 1)) (wBit x10 2)) (wBit x14 3)) (wBit x18 4)) (wBit x22 5)) (wBit x26 6)) (wBit x29 7)
 let x45:=x28.2
 let x46:=x45.1
 let x47:=x45.2
 let x48:List Int:=a.2.2.2.1++[x44,x46,x47,Zfa x44 x46 x47]
 .br (decide (a.2.2.1<a.2.1)) (.br (orR p11 (Nat.ble (List.length x48) most)) (.br (orR p10 x3) (.br (orR p9 x42) (.br (orR p8 x40) (.br (orR p5 x38) (.br (orR p4 x36) (.br (orR p2 x34) (.br (!Zf a.2.2.1 (List.length a.1)||(decide (a.2.2.1>=65536)||(x31||x32))) (.br (!Zf a.2.2.1 (List.length a.1)||(decide (a.2.2.1>=65536)||x30)) (.br (Zf a.2.2.1 (List.length a.1)) (.br (decide (a.2.2.1>=65536)) (.Lf (some (Go1.brk (a.1,a.2.1,a.2.2.1,a.2.2.2.1,PUnit.unit)))) (.Lf (some (Go1.cont (a.1,a.2.1,i64.wrap (a.2.2.1+1),x48,PUnit.unit))))) (.Lf none)) (.Lf none)) (.Lf none)) (.Lf none)) (.Lf none)) (.Lf none)) (.Lf none)) (.Lf none)) (.Lf none)) (.Lf none)) (.Lf (some (Go1.brk (a.1,a.2.1,a.2.2.1,a.2.2.2.1,PUnit.unit))))
def Zmp:Ora:=ZbI false Zy6 Zh0 (λa=>1000000000000)
theorem ZrD:Zbg (envX prog [(116,ZII),(117,Zh2)] [] 127 8) (.block 0 (.loop (Z7 Tryz.f56.body 0))) Zmp:=
 loopP ⟨ZrH,Ze9,Tv⟩
def Zgl (l:List INPT):RT (Option (List Int)):=
 let x1:=runF false Zh0 (λa=>1000000000000) (l,iN (List.length l),0,[],())
 .br (okB x1) (.Lf (some (getO (false,l,iN (List.length l),0,[],()) x1).2.2.2.2.1)) (.Lf none)
def ZbF (l:List INPT):List Int:=getO [] (Zgl l).val
def Zgm (l:List INPT):Bool:=okB (Zgl l).val
def Zvb:En:=frzE (newE ZaR ZaS ZjX (λa=>some (Zgm a)) (λa=>ZbF a))
theorem Zvc:Zb prog 56 (newE ZaR ZaS ZjX (λa=>some (Zgm a)) (λa=>ZbF a)):=
 Zl0 (P:=prog) (n:=127) (k:=8) (l:=[(116,ZII),(117,Zh2)]) (ol:=[(0,Zmp)]) ⟨ZrH,Ze9,Tv⟩ Tryz.func56 rfl (by kernel_rfl) Tryz.call56 ⟨ZrD,Tv⟩ (r:=ZaR) (T:=ZaS) (ts:=ZjX) (t:=λa=>Zgl a) (λa=>by kernel_rfl)
theorem Zy5:Zb prog 56 Zvb:=Zyu Zvc
abbrev ZoB:R:=R.Pq (R.sl (R.int i64)) (R.int i64)
abbrev ZxM:List Sh:=[Sh.one (R.int i64)]
abbrev ZoA:Rs:=Rs.one (Sh.one (R.sl (R.int u8)))
def Zhu (s:List Int×Int) (n:Int):RT (Option (List Int×List Int×Int)):=
 let x1:=decide (iN (List.length (Stg.l (newG ZaR ZaS (ZbF (Zab s n).1))))>0)
 let x2:=x1&&(Za (Zab s n).2 4).1==0
 let x3:= !x2
 let x4:List Int:=bif x1 then (Za (Zab s n).2 4).2.1 else (Zab s n).2.1
 let x5:Int:=bif x1 then (Za (Zab s n).2 4).2.2 else (Zab s n).2.2
 let x6:List Int×Int:=(x4,x5)
 let x7:=Zj x6 (iN (List.length (Stg.l (newG ZaR ZaS (ZbF (Zab s n).1)))))
 let x8:= !x7
 let x9:=Za x6 (iN (List.length (Stg.l (newG ZaR ZaS (ZbF (Zab s n).1)))))
 let x10:=x9.1
 let x11:=Zf x10 (List.length (Stg.l (newG ZaR ZaS (ZbF (Zab s n).1))))
 let x12:= !x11
 let x13:=x9.2
 let x14:=Zj x13 8
 let x15:= !x14
 let p1:=x15::x12::x8::x3::[]
 let x16:=Za x13 8
 let x17:=x16.1
 let x18:=decide (0<=x17)
 let p2:=(!x18)::p1
 let x19:=x16.2
 .br (!Zjn s n||Zgm (Zab s n).1) (.br (Zjn s n) (.br (!x1||Zj (Zab s n).2 4) (.br (orR p2 x11) (.br (orR p1 x18) (.br (x3||(x8||(x12||x14))) (.br (x3||(x8||x11)) (.br (x3||x7) (.Lf (some ((bif x2 then setI (Stg.l (newG ZaR ZaS (ZbF (Zab s n).1))) x10 (xorI u8 (R.get (Stg.r (newG ZaR ZaS (ZbF (Zab s n).1))) (Stg.l (newG ZaR ZaS (ZbF (Zab s n).1))) x10) (shlI u8 1 x17)) else Stg.l (newG ZaR ZaS (ZbF (Zab s n).1)),bif x2 then x19.1 else x4,bif x2 then x19.2 else x5)))) (.Lf none)) (.Lf none)) (.Lf none)) (.Lf none)) (.Lf none)) (.Lf none)) (.Lf none)) (.Lf none)
def ZgO (s:List Int×Int) (n:Int):List Int×List Int×Int:=getO (ZoA.Df,ZoB.Df) (Zhu s n).val
def Zl1 (s:List Int×Int) (n:Int):Bool:=okB (Zhu s n).val
def ZE0:En:=boxE ZoB ZxM ZoA (λa=>some (Zl1 a.1 a.2)) (λa=>ZgO a.1 a.2)
theorem ZHJ:Zb prog 67 ZE0:=
 ZcJ (P:=prog) (n:=63) (k:=8) (l:=[(56,Zvb),(68,ZcW),(125,ZE1)]) (ol:=[]) ⟨Zy5,Zbf,ZHM,Tv⟩ Tryz.func67 rfl (by kernel_rfl) Tryz.call67 trivial (rb:=ZoB) (ts:=ZxM) (rs:=ZoA) (t:=λa=>Zhu a.1 a.2) (λa=>by kernel_rfl)
theorem ZOp:Zh0=Zdd:=by funext a;rfl
theorem ZPf (l:List INPT) (hl:l.length<=1000):Zgm l=true/\ZbF l=Zh1 l/\(ZbF l).length=4*l.length:=by
 have h:=ZFX l hl;have e:Zgl l=Zfx l:=by unfold Zgl Zfx;rw[ZOp]
 have e2:ZbF l=Zh1 l:=by unfold ZbF Zh1;rw[e];rfl
 refine⟨by unfold Zgm;rw[e];exact h.1,e2,by rw[e2];exact h.2⟩
theorem ZHK {s:List Int×Int} {k:Int} (h:NB s k) (hk:k<=50000) (n:Nat) (hn:n<=250):
  Zl1 s (n:Int)=true/\NB (ZgO s (n:Int)).2 (k+10+30*n)/\(ZgO s (n:Int)).1.length<=4*n/\∃m:Nat,(ZgO s (n:Int)).1.length=4*m:=by
 have hms:=mst;obtain⟨c1,b1,l1⟩:=ZHN h (by omega) n hn;obtain⟨c2,e2,l2⟩:=ZPf (Zab s (n:Int)).1 (by omega);have hg:∀l:List Int,Stg.l (newG ZaR ZaS l)=l:=λ_=>rfl
 have hr:∀l:List Int,Stg.r (newG ZaR ZaS l)=R.int .u8:=λ_=>rfl
 obtain⟨L,hL⟩:∃L,L=ZbF (Zab s (n:Int)).1:=⟨_,rfl⟩;rw[<-hL] at l2;obtain⟨c3,b3,_⟩:=Zq b1 (by omega) 4 (by decide) (by decide);have b4:NB (bif decide (iN L.length>0) then (Za (Zab s (n:Int)).2 4).2.1 else (Zab s (n:Int)).2.1,bif decide (iN L.length>0) then (Za (Zab s (n:Int)).2 4).2.2 else (Zab s (n:Int)).2.2) (k+3+30*n):=by
  cases decide (iN L.length>0)
  ·exact b1.up (by omega)
  ·exact b3.up (by omega)
 obtain⟨s4,hs4⟩:∃s4:List Int×Int,s4=(bif decide (iN L.length>0) then (Za (Zab s (n:Int)).2 4).2.1 else (Zab s (n:Int)).2.1,bif decide (iN L.length>0) then (Za (Zab s (n:Int)).2 4).2.2 else (Zab s (n:Int)).2.2):=⟨_,rfl⟩;rw[<-hs4] at b4;have hv:∃l s',(Zhu s (n:Int)).val=some (l,s')/\NB s' (k+10+30*n)/\l.length=L.length:=by
  by_cases hz:0<L.length
  ·have d:decide (iN L.length>0)=true:=YA (by simp only[iN];omega);obtain⟨c5,b5,d0,d1⟩:=Zq b4 (by omega) (iN L.length) (by simp only[iN];omega) (by simp only[iN];omega);obtain⟨c6,b6,f0,f1⟩:=Zq b5 (by omega) 8 (by decide) (by decide);have r5:Zf (Za s4 (iN L.length)).1 L.length=true:=Zx.2 ⟨d0,by simpa [iN] using d1⟩;have e6:decide (0<=(Za (Za s4 (iN L.length)).2 8).1)=true:=YA f0;rw[d] at hs4;simp only[Ya] at hs4;unfold Zhu;simp only[RT.val,hg,hr,<-hL,c1,c2,d,c3,<-hs4,c5,r5,c6,e6,ZaM,Zae,YK,Yf,Yh,Yi,Ya];cases (Za (Zab s (n:Int)).2 4).1==0
   ·exact⟨_,_,rfl,b3.up (by omega),rfl⟩
   ·exact⟨_,_,rfl,b6.up (by omega),by simp only[Ya,setI,YaD]⟩
  ·have d:decide (iN L.length>0)=false:=YV (by simp only[iN];omega);rw[d] at hs4;simp only[Yc] at hs4;unfold Zhu;simp only[RT.val,hg,hr,<-hL,c1,c2,d,ZaM,Zae,YT,Yf,Ym,Yv,Yh,Yi,Ya,Yc];exact⟨_,_,rfl,b1.up (by omega),rfl⟩
 obtain⟨l,s',hv,h1,h2⟩:=hv;simp only[Zl1,ZgO,hv,okB,getO];exact⟨trivial,h1,by omega,(Zab s (n:Int)).1.length,by omega⟩
def ZXM (k:Int):Bool:=k==1||(k==2||k==3)
def ZW8 (c:TC) (e:EVTT):TC:=(c.1,c.2.1,c.2.2.1,c.2.2.2.1,c.2.2.2.2.1,c.2.2.2.2.2.1,e.2.2.2.2.2.1,e.2.2.2.2.1,e.2.2.2.2.2.2.2.1,e.2.2.2.2.2.2.1,c.2.2.2.2.2.2.2.2.2.2)
def ZFS (c:TC) (e:EVTT):TC:=bif ZXM e.1 then finX (ZW8 (Zcq c e.2.1) e) e.2.1 e.2.2.1 e.2.2.2.1 else bif e.1==4 then Zaq c else c
def ZW7 (c:TC) (x:TY) (b:Int):TY:=(x.1,x.2.1,bif ZaU x.1 then b else x.2.2.1,bif x.1==1||x.1==8 then ZgB c.1 b else x.2.2.2)
def cyX (c:TC) (s:Int) (g:List Int):List Int->List TY
 |[]=>[]
 |b::r=>bif (Zh c s g).2 then ZW7 c (Zh c s g).1 b::cyX c s (g++[b]) r else []
def cycE (k:Int):Bool:=ZXM k||(k==6||k==7)
def ZV6 (c:TC) (e:EVTT):List TY:=bif cycE e.1 then cyX (Zcq c e.2.1) e.2.1 [] e.2.2.1 else []
def ZWC (c:TC):List EVTT->List TC
 |[]=>[]
 |e::l=>ZFS c e::ZWC (ZFS c e) l
def ZVC (c:TC) (l:List EVTT):TC:=l.foldl ZFS c
def ZJI (r:R):List r.den->List r.den->Bool
 |[],[]=>true
 |x::a,y::b=>r.eqf x y (ZJI r a b)
 |_,_=>false
theorem Zqp (r:R):∀a:List r.den,ZJI r a a=true
 |[]=>rfl
 |x::a=>by simp only[ZJI,R.eqf_refl,Zqp r a]
def ZT1 {α:Type} (l:List α):Bool:=Nat.ble l.length 1000000
abbrev ZDW:List Sh:=[Sh.one (R.int i64),Sh.one (R.int i64)]
abbrev ZDX:Rs:=Rs.one (Sh.one (R.int i64))
def ZzZ (l:Int) (k:Int):RT (Int):=
 .Lf (andI i64 (i64.wrap (i64.wrap (andI i64 l 7-andI i64 k 7)+7)) 7)
def ZwY (l:Int) (k:Int):Int:=(ZzZ l k).val
def ZKR:En:=Zg ZDW ZDX (λ_=>none) (λa=>ZwY a.1 a.2)
theorem ZKQ:Zb prog 381 ZKR:=
 pureQ 31 [] [] ZDW ZDX trivial Tryz.func381 Tryz.call381 trivial (t:=λa=>ZzZ a.1 a.2)
abbrev ZD0:List Sh:=[Sh.one (R.int u8),Sh.one (R.int i64)]
abbrev ZsJ:Rs:=Rs.one (Sh.one (R.int i64))
def ZKU:LS:={n:=22,Sl:=[(0,.code (Sh.one (R.int u8))),(1,.code (Sh.one (R.int i64))),(4,.code (Sh.one (R.int i64))),(5,.code (Sh.one (R.int i64)))],Bx:=[],Sg:=[]}
def Zdy (a:QT24):RT (Option (Go1 (QT24))):=
 let x1:=andI i64 (i64.wrap (andI i64 a.2.1 7+a.2.2.2.1)) 7
 .br (decide (a.2.2.2.1<=8)) (.br (decide (0<=x1)) (.br (andI u8 (shrI u8 a.1 x1) 1==1) (.Lf (some (Go1.ret (a.1,a.2.1,x1,a.2.2.2.1,PUnit.unit)))) (.Lf (some (Go1.cont (a.1,a.2.1,a.2.2.1,i64.wrap (a.2.2.2.1+1),PUnit.unit))))) (.Lf none)) (.Lf (some (Go1.brk (a.1,a.2.1,a.2.2.1,a.2.2.2.1,PUnit.unit))))
def Zw0:Ora:=ZbI true ZKU Zdy (λa=>9)
theorem Zz0:Zbg (envX prog [] [] 127 8) (.block 0 (.loop (Z7 Tryz.f346.body 0))) Zw0:=
 loopP trivial
def Zie (s:Int) (k:Int):RT (Option (Int)):=
 let x1:=runF true Zdy (λa=>9) (s,k,0,1,())
 let x2:=getO (false,s,k,0,1,()) x1
 .br (okB x1) (.br x2.1 (.Lf (some x2.2.2.2.1)) (.Lf (some (-1)))) (.Lf none)
def Zi3 (s:Int) (k:Int):Int:=getO ZsJ.Df (Zie s k).val
def Zif (s:Int) (k:Int):Bool:=okB (Zie s k).val
def Zz1:En:=Zg ZD0 ZsJ (λa=>some (Zif a.1 a.2)) (λa=>Zi3 a.1 a.2)
theorem ZwZ:Zb prog 346 Zz1:=
 pureP 127 [] [(0,Zw0)] ZD0 ZsJ trivial Tryz.func346 Tryz.call346 ⟨Zz0,Tv⟩ (t:=λa=>Zie a.1 a.2)
abbrev ZDY:List Sh:=[Sh.one (R.int u8),Sh.one (R.int u8),Sh.one (R.int u8),Sh.one (R.int i64),Sh.one R.bool]
abbrev ZsH:Rs:=Rs.one (Sh.one (R.int i64))
def Znb (r:Int) (m:Int) (s:Int) (k:Int) (p:Bool):RT (Option (Int)):=
 .br (!Zif (ZX u8 r m) k||Zif (bif p then ZX u8 s m else s) k) (.br (Zif (ZX u8 r m) k) (.br (decide (Zi3 (ZX u8 r m) k<0)||decide (Zi3 (bif p then ZX u8 s m else s) k>=0)&&decide (ZwY (Zi3 (ZX u8 r m) k) k>=ZwY (Zi3 (bif p then ZX u8 s m else s) k) k)) (.Lf (some (-1))) (.Lf (some (Zi3 (ZX u8 r m) k)))) (.Lf none)) (.Lf none)
def ZDZ (r:Int) (m:Int) (s:Int) (k:Int) (p:Bool):Int:=getO ZsH.Df (Znb r m s k p).val
def ZsI (r:Int) (m:Int) (s:Int) (k:Int) (p:Bool):Bool:=okB (Znb r m s k p).val
def ZKT:En:=Zg ZDY ZsH (λa=>some (ZsI a.1 a.2.1 a.2.2.1 a.2.2.2.1 a.2.2.2.2)) (λa=>ZDZ a.1 a.2.1 a.2.2.1 a.2.2.2.1 a.2.2.2.2)
theorem ZKS:Zb prog 344 ZKT:=
 pureP 8191 [(346,Zz1),(381,ZKR)] [] ZDY ZsH ⟨ZwZ,ZKQ,Tv⟩ Tryz.func344 Tryz.call344 trivial (t:=λa=>Znb a.1 a.2.1 a.2.2.1 a.2.2.2.1 a.2.2.2.2)
abbrev ZK3:List Sh:=[]
abbrev ZK4:Rs:=Rs.one (Sh.agg ZaE)
def ZSs:RT PICT:=
 .Lf ((0,false,false,false,false,0,0,false,false,false,false,false,0,0,0,0,7,0,0,false))
def ZUq:PICT:=(ZSs).val
def Zw2:En:=Zg ZK3 ZK4 (λ_=>none) (λa=>ZUq)
theorem ZsS:Zb prog 99 Zw2:=
 pureQ 1 [] [] ZK3 ZK4 trivial Tryz.func99 Tryz.call99 trivial (t:=λa=>ZSs)
abbrev ZKX:List Sh:=[Sh.agg ZaE]
abbrev ZKZ:Rs:=Rs.one (Sh.one (R.int u8))
def ZKY (p:PICT):RT (Int):=
 .br p.2.1 (.Lf p.2.2.2.2.2.2.2.2.2.2.2.2.1) (.Lf p.2.2.2.2.2.2.2.2.2.2.2.2.2.1)
def ZGt (p:PICT):Int:=(ZKY p).val
def ZK0:En:=Zg ZKX ZKZ (λ_=>none) (λa=>ZGt a)
theorem ZD3:Zb prog 273 ZK0:=
 pureQ 7 [] [] ZKX ZKZ trivial Tryz.func273 Tryz.call273 trivial (t:=λa=>ZKY a)
abbrev ZD4:List Sh:=[Sh.agg ZaE]
abbrev ZsQ:Rs:=Rs.one (Sh.one (R.int i64))
def Znj (p:PICT):RT (Option (Int)):=
 let x1:=p.2.2.2.2.2.2.2.2.2.2.2.2.2.2
 let x2:=x1.2
 let x3:=x2.1
 let x4:=x1.1
 let x5:=x2.2.1
 .br (ZsI (ZGt p) x3 x4 x5 p.2.2.2.2.2.2.2.2.2.1) (.Lf (some (ZDZ (ZGt p) x3 x4 x5 p.2.2.2.2.2.2.2.2.2.1))) (.Lf none)
def Za5 (p:PICT):Int:=getO ZsQ.Df (Znj p).val
def Zkm (p:PICT):Bool:=okB (Znj p).val
def ZsR:En:=Zg ZD4 ZsQ (λa=>some (Zkm a)) (λa=>Za5 a)
theorem Zni:Zb prog 268 ZsR:=
 pureP 7 [(273,ZK0),(344,ZKT)] [] ZD4 ZsQ ⟨ZD3,ZKS,Tv⟩ Tryz.func268 Tryz.call268 trivial (t:=λa=>Znj a)
abbrev ZsT:List Sh:=[Sh.agg ZaE]
abbrev ZsU:Rs:=Rs.one (Sh.one R.bool)
def Zw3 (p:PICT):RT (Option (Bool)):=
 .br (Zkm p) (.Lf (some (decide (Za5 p>=0)))) (.Lf none)
def ZUr (p:PICT):Bool:=getO ZsU.Df (Zw3 p).val
def ZK5 (p:PICT):Bool:=okB (Zw3 p).val
def ZW4:En:=Zg ZsT ZsU (λa=>some (ZK5 a)) (λa=>ZUr a)
theorem ZQe:Zb prog 199 ZW4:=
 pureP 7 [(268,ZsR)] [] ZsT ZsU ⟨Zni,Tv⟩ Tryz.func199 Tryz.call199 trivial (t:=λa=>Zw3 a)
abbrev Znf:List Sh:=[Sh.agg ZaE,Sh.one (R.int u8)]
abbrev Zng:Rs:=Rs.one (Sh.agg ZaE)
def ZsP (p:PICT) (l:Int):RT PICT:=
 let x1:=p.2.2.2.2.2.2.2.2.2.2.2.2.2
 .Lf ((p.1,p.2.1,p.2.2.1,p.2.2.2.1,p.2.2.2.2.1,p.2.2.2.2.2.1,p.2.2.2.2.2.2.1,p.2.2.2.2.2.2.2.1,p.2.2.2.2.2.2.2.2.1,p.2.2.2.2.2.2.2.2.2.1,p.2.2.2.2.2.2.2.2.2.2.1,p.2.2.2.2.2.2.2.2.2.2.2.1,l,andI u8 (orI u8 x1.1 (ZX u8 l p.2.2.2.2.2.2.2.2.2.2.2.2.1)) l,x1.2))
def Zz5 (p:PICT) (l:Int):PICT:=(ZsP p l).val
def ZQd:En:=Zg Znf Zng (λ_=>none) (λa=>Zz5 a.1 a.2)
theorem ZGu:Zb prog 198 ZQd:=
 pureQ 31 [] [] Znf Zng trivial Tryz.func198 Tryz.call198 trivial (t:=λa=>ZsP a.1 a.2)
abbrev ZD2:List Sh:=[Sh.agg ZaE,Sh.one (R.int i64)]
abbrev ZsN:Rs:=Rs.one (Sh.agg ZaE)
def ZsM (p:PICT) (x:Int):RT (Option PICT):=
 let x1:=p.2.2.2.2.2.2.2.2.2.2.2.2.2
 let x2:=x1.2
 .br (decide (0<=x)) (.br (decide (0<=x)) (.Lf (some ((p.1,p.2.1,p.2.2.1,p.2.2.2.1,p.2.2.2.2.1,p.2.2.2.2.2.1,p.2.2.2.2.2.2.1,p.2.2.2.2.2.2.2.1,p.2.2.2.2.2.2.2.2.1,p.2.2.2.2.2.2.2.2.2.1,p.2.2.2.2.2.2.2.2.2.2.1,p.2.2.2.2.2.2.2.2.2.2.2.1,p.2.2.2.2.2.2.2.2.2.2.2.2.1,ZX u8 x1.1 (shlI u8 1 x),orI u8 x2.1 (shlI u8 1 x),x2.2)))) (.Lf none)) (.Lf none)
def ZqH (p:PICT) (x:Int):PICT:=getO ZsN.Df (ZsM p x).val
def Zkl (p:PICT) (x:Int):Bool:=okB (ZsM p x).val
def Zz3:En:=Zg ZD2 ZsN (λa=>some (Zkl a.1 a.2)) (λa=>ZqH a.1 a.2)
theorem Zw1:Zb prog 271 Zz3:=
 pureP 31 [] [] ZD2 ZsN trivial Tryz.func271 Tryz.call271 trivial (t:=λa=>ZsM a.1 a.2)
abbrev ZK6:List Sh:=[Sh.agg ZaE,Sh.one (R.int i64)]
abbrev Zz6:Rs:=Rs.one (Sh.agg ZaE)
def ZD6 (p:PICT) (x:Int):RT (Option PICT):=
 let x1:=p.2.2.2.2.2.2.2.2.2.2.2.2.2
 let x2:=x1.2
 let x3:=x2.2
 let x4:=x3.2
 .br (decide (0<=x)) (.Lf (some ((p.1,p.2.1,p.2.2.1,p.2.2.2.1,p.2.2.2.2.1,p.2.2.2.2.2.1,p.2.2.2.2.2.2.1,p.2.2.2.2.2.2.2.1,p.2.2.2.2.2.2.2.2.1,p.2.2.2.2.2.2.2.2.2.1,p.2.2.2.2.2.2.2.2.2.2.1,p.2.2.2.2.2.2.2.2.2.2.2.1,p.2.2.2.2.2.2.2.2.2.2.2.2.1,x1.1,ZX u8 x2.1 (shlI u8 1 x),x3.1,bif p.2.2.2.2.2.2.2.2.1 then x else x4.1,x4.2)))) (.Lf none)
def ZGv (p:PICT) (x:Int):PICT:=getO Zz6.Df (ZD6 p x).val
def ZqJ (p:PICT) (x:Int):Bool:=okB (ZD6 p x).val
def ZK7:En:=Zg ZK6 Zz6 (λa=>some (ZqJ a.1 a.2)) (λa=>ZGv a.1 a.2)
theorem ZD5:Zb prog 272 ZK7:=
 pureP 31 [] [] ZK6 Zz6 trivial Tryz.func272 Tryz.call272 trivial (t:=λa=>ZD6 a.1 a.2)
abbrev ZD7:List Sh:=[Sh.agg ZaE,Sh.one (R.int u8)]
abbrev ZD8:Rs:=Rs.one (Sh.agg ZaE)
def Zz7 (p:PICT) (v:Int):RT PICT:=
 let x1:=p.2.2.2.2.2.2.2.2.2.2.2.2.2
 let x2:=x1.2
 let x3:=x2.2
 let x4:=x3.1
 .Lf ((bif p.1==2 then bif p.2.2.2.1 then bif p.2.2.2.2.1 then 4 else 0 else 3 else bif p.1==3 then bif p.2.2.2.2.1 then 4 else 0 else bif p.1==4 then 0 else p.1,p.2.1,p.2.2.1,p.2.2.2.1,p.2.2.2.2.1,p.2.2.2.2.2.1,bif p.1==2 then v else p.2.2.2.2.2.2.1,bif p.1==2 then p.2.2.2.2.2.2.2.1 else bif p.1==3 then p.2.2.2.2.2.2.2.1 else bif p.1==4 then andI u8 v 2 !=0 else p.2.2.2.2.2.2.2.1,p.2.2.2.2.2.2.2.2.1,p.2.2.2.2.2.2.2.2.2.1,p.2.2.2.2.2.2.2.2.2.2.1,p.2.2.2.2.2.2.2.2.2.2.2.1,p.2.2.2.2.2.2.2.2.2.2.2.2.1,x1.1,x2.1,bif p.1==2 then x4 else bif p.1==3 then x4 else bif p.1==4 then x4 else v,x3.2))
def ZD9 (p:PICT) (v:Int):PICT:=(Zz7 p v).val
def ZK9:En:=Zg ZD7 ZD8 (λ_=>none) (λa=>ZD9 a.1 a.2)
theorem ZK8:Zb prog 274 ZK9:=
 pureQ 35655743 [] [] ZD7 ZD8 trivial Tryz.func274 Tryz.call274 trivial (t:=λa=>Zz7 a.1 a.2)
abbrev ZLa:List Sh:=[Sh.agg ZaE,Sh.one (R.int u8)]
abbrev Zz8:Rs:=Rs.one (Sh.agg ZaE)
def Zw5 (p:PICT) (v:Int):RT (Option PICT):=
 let x1:=p.2.2.2.2.2.2.2.2.2.2.2.2.2
 let x2:=x1.2
 let x3:=x2.1
 let x4:=x2.2
 let x5:=x4.1
 let x6:Int:=bif p.2.2.2.2.2.2.2.2.2.1 then ZX u8 x3 x5 else x3
 let x7:=x4.2
 let x8:=x7.1
 let x9:=bif shrI u8 v 5==1 then shrI u8 v 5==1 else shrI u8 v 5==5
 let x10:=Zi3 x6 x8
 let x11:=decide (x10<0)
 let p1:=x11::(!x9)::(shrI u8 v 5==4)::(shrI u8 v 5==0)::[]
 let x12:= !shrI u8 v 5==3||decide (0<=i64.wrap (andI u8 v 7))
 let p2:=(!shrI u8 v 5==7)::(shrI u8 v 5==3)::(!x12)::x9::(shrI u8 v 5==4)::(shrI u8 v 5==0)::[]
 let x13:=ZX u8 x3 (shlI u8 1 (i64.wrap (andI u8 v 7)))
 .br (Zif x6 x8) (.br (orR p1 (decide (0<=x10))) (.br (orR p2 (decide (0<=i64.wrap (andI u8 v 7)))) (.br (shrI u8 v 5==0||(shrI u8 v 5==4||(x9||x12))) (.Lf (some ((p.1,p.2.1,p.2.2.1,p.2.2.2.1,p.2.2.2.2.1,p.2.2.2.2.2.1,p.2.2.2.2.2.2.1,p.2.2.2.2.2.2.2.1,!shrI u8 v 5==0&&(shrI u8 v 5==4||p.2.2.2.2.2.2.2.2.1),p.2.2.2.2.2.2.2.2.2.1,p.2.2.2.2.2.2.2.2.2.2.1,p.2.2.2.2.2.2.2.2.2.2.2.1,p.2.2.2.2.2.2.2.2.2.2.2.2.1,x1.1,bif shrI u8 v 5==0 then x3 else bif shrI u8 v 5==4 then x3 else bif x9 then bif x11 then x3 else ZX u8 x3 (shlI u8 1 x10) else bif shrI u8 v 5==3 then x13 else bif shrI u8 v 5==7 then x13 else x3,x5,bif shrI u8 v 5==0 then x8 else bif shrI u8 v 5==4 then x8 else bif x9 then bif x11 then x8 else bif shrI u8 v 5==5 then x10 else x8 else bif shrI u8 v 5==3 then x8 else bif shrI u8 v 5==7 then i64.wrap (andI u8 v 7) else bif shrI u8 v 5==6 then i64.wrap (andI u8 v 7) else x8,x7.2)))) (.Lf none)) (.Lf none)) (.Lf none)) (.Lf none)
def ZQg (p:PICT) (v:Int):PICT:=getO Zz8.Df (Zw5 p v).val
def ZEa (p:PICT) (v:Int):Bool:=okB (Zw5 p v).val
def ZSt:En:=Zg ZLa Zz8 (λa=>some (ZEa a.1 a.2)) (λa=>ZQg a.1 a.2)
theorem ZQf:Zb prog 275 ZSt:=
 pureP 36929657684375896319 [(346,Zz1)] [] ZLa Zz8 ⟨ZwZ,Tv⟩ Tryz.func275 Tryz.call275 trivial (t:=λa=>Zw5 a.1 a.2)
abbrev Znc:List Sh:=[Sh.agg ZaE,Sh.one R.bool,Sh.one (R.int u8)]
abbrev Zi5:Rs:=Rs.one (Sh.agg ZaE)
def Zi4 (p:PICT) (h:Bool) (v:Int):RT (Option PICT):=
 .br (h||(andI u8 v 16 !=0||(!andI u8 v 8==0||ZEa p v))) (.br (h) (.Lf (some (ZD9 p v))) (.br (andI u8 v 16 !=0) (.Lf (some ((2,andI u8 v 8 !=0,andI u8 v 4 !=0,andI u8 v 2 !=0,andI u8 v 1 !=0,andI u8 v 224,0,false,false,false,false,false,p.2.2.2.2.2.2.2.2.2.2.2.2.1,0,0,0,7,0,0,false)))) (.br (andI u8 v 8==0) (.Lf (some (ZQg p v))) (.Lf (some ((p.1,p.2.1,p.2.2.1,p.2.2.2.1,p.2.2.2.2.1,p.2.2.2.2.2.1,p.2.2.2.2.2.2.1,p.2.2.2.2.2.2.2.1,p.2.2.2.2.2.2.2.2.1,bif andI u8 v 64 !=0 then andI u8 v 32 !=0 else p.2.2.2.2.2.2.2.2.2.1,bif andI u8 v 2 !=0 then andI u8 v 1 !=0 else p.2.2.2.2.2.2.2.2.2.2.1,andI u8 v 4 !=0||p.2.2.2.2.2.2.2.2.2.2.2.1,p.2.2.2.2.2.2.2.2.2.2.2.2))))))) (.Lf none)
def Zz2 (p:PICT) (h:Bool) (v:Int):PICT:=getO Zi5.Df (Zi4 p h v).val
def ZsL (p:PICT) (h:Bool) (v:Int):Bool:=okB (Zi4 p h v).val
def ZQc:En:=Zg Znc Zi5 (λa=>some (ZsL a.1 a.2.1 a.2.2)) (λa=>Zz2 a.1 a.2.1 a.2.2)
theorem ZGs:Zb prog 207 ZQc:=
 pureP 4398046519807 [(99,Zw2),(274,ZK9),(275,ZSt)] [] Znc Zi5 ⟨ZsS,ZK8,ZQf,Tv⟩ Tryz.func207 Tryz.call207 trivial (t:=λa=>Zi4 a.1 a.2.1 a.2.2)
abbrev ZsO:List Sh:=[Sh.agg ZaE,Sh.one R.bool]
abbrev ZlO:Rs:=Rs.tup [Sh.agg ZaE,Sh.one (R.int u8)]
def Zne (p:PICT) (h:Bool):RT (Option (PICT×Int)):=
 let x1:= !p.2.2.2.2.2.2.2.2.2.2.2.1
 let x2:PICT:=(p.1,p.2.1,p.2.2.1,p.2.2.2.1,p.2.2.2.2.1,p.2.2.2.2.2.1,p.2.2.2.2.2.2.1,p.2.2.2.2.2.2.2.1,p.2.2.2.2.2.2.2.2.1,p.2.2.2.2.2.2.2.2.2.1,p.2.2.2.2.2.2.2.2.2.2.1,false,p.2.2.2.2.2.2.2.2.2.2.2.2)
 let x3:=h||(x1||Zkm x2)
 let x4:= !x3
 let x5:=Za5 x2
 let x6:=decide (x5<0)
 let p1:=x6::x1::h::x4::[]
 let x7:=Zkl x2 x5
 let x8:=ZqH x2 x5
 let x9:=x8.2
 let x10:=x9.2
 let x11:=x10.2
 let x12:=x11.2
 let x13:=x12.2
 let x14:=x13.2
 let x15:=x14.2
 let x16:=x15.1
 let p2:=(!x16)::(!x7)::p1
 let x17:=p.2.2.2.2.2.2.2.2.2.2.2.2.2.2
 let x18:=ZGv x8 x5
 .br (orR p2 (ZqJ x8 x5)) (.br (orR p1 x7) (.br (x3) (.br (h) (.Lf (some ((p,x17.2.1)))) (.br p.2.2.2.2.2.2.2.2.2.2.2.1 (.br (x6) (.Lf (some ((x2,0)))) (.Lf (some (((R.sel ZaE x16 x18 x8),u8.wrap (128+u8.wrap x5)))))) (.br p.2.2.2.2.2.2.2.2.2.2.1 (.Lf (some ((p,x17.1)))) (.Lf (some ((p,ZGt p))))))) (.Lf none)) (.Lf none)) (.Lf none)
def ZK2 (p:PICT) (h:Bool):PICT×Int:=getO ZlO.Df (Zne p h).val
def Zz4 (p:PICT) (h:Bool):Bool:=okB (Zne p h).val
def ZUp:En:=Zg ZsO ZlO (λa=>some (Zz4 a.1 a.2)) (λa=>ZK2 a.1 a.2)
theorem ZK1:Zb prog 205 ZUp:=
 pureP 8589938943 [(268,ZsR),(271,Zz3),(272,ZK7),(273,ZK0)] [] ZsO ZlO ⟨Zni,Zw1,ZD5,ZD3,Tv⟩ Tryz.func205 Tryz.call205 trivial (t:=λa=>Zne a.1 a.2)
abbrev Zz9:List Sh:=[Sh.agg ZaE]
abbrev ZsV:Rs:=Rs.tup [Sh.agg ZaE,Sh.one (R.int u8)]
def Zw6 (p:PICT):RT (Option (PICT×Int)):=
 let x1:=p.2.2.2.2.2.2.2.2.2.2.2.2.2
 let x2:=x1.2
 let x3:=x2.2
 let x4:=x3.2
 let x5:=x4.2
 let x6:=x5.1
 let x7:=x6==0
 let x8:= !x7
 let x9:=x8||Zkm p
 let x10:=p.2.2.2.2.2.2.2.2.2.2.2.2.1
 let x11:=x1.1
 let x12:=x2.1
 let x13:=x3.1
 let x14:=x4.1
 let x15:=x5.2
 let x16:=x15.1
 let x17:PICT:=(p.1,p.2.1,p.2.2.1,p.2.2.2.1,p.2.2.2.2.1,p.2.2.2.2.2.1,p.2.2.2.2.2.2.1,p.2.2.2.2.2.2.2.1,p.2.2.2.2.2.2.2.2.1,p.2.2.2.2.2.2.2.2.2.1,p.2.2.2.2.2.2.2.2.2.2.1,p.2.2.2.2.2.2.2.2.2.2.2.1,x10,x11,x12,x13,x14,x6,x16,decide (Za5 p<0))
 let x18:=ZqH x17 (Za5 p)
 let x19:=x18.2
 let x20:=x19.2
 let x21:=x20.2
 let x22:=x21.2
 let x23:=x22.2
 let x24:=x23.2
 let x25:=x24.2
 let x26:=x25.2
 let x27:=x26.2
 let x28:=x27.2
 let x29:=x28.2
 let x30:=x29.2
 let x31:=x30.2
 let x32:=x31.2
 let x33:=x32.2
 let x34:=x33.2
 let x35:PICT:=(p.1,p.2.1,p.2.2.1,p.2.2.2.1,p.2.2.2.2.1,p.2.2.2.2.2.1,p.2.2.2.2.2.2.1,p.2.2.2.2.2.2.2.1,p.2.2.2.2.2.2.2.2.1,p.2.2.2.2.2.2.2.2.2.1,p.2.2.2.2.2.2.2.2.2.2.1,p.2.2.2.2.2.2.2.2.2.2.2.1,x10,x11,x12,x13,x14,2,x15)
 let x36:=andI i64 x16 7
 let x37:=x15.2
 let x38:=p.2.2.2.2.2.2.2.1&& !x37
 let x39:PICT:=(p.1,p.2.1,p.2.2.1,p.2.2.2.1,p.2.2.2.2.1,p.2.2.2.2.2.1,p.2.2.2.2.2.2.1,p.2.2.2.2.2.2.2.1,p.2.2.2.2.2.2.2.2.1,p.2.2.2.2.2.2.2.2.2.1,p.2.2.2.2.2.2.2.2.2.2.1,p.2.2.2.2.2.2.2.2.2.2.2.1,x10,x11,x12,x13,x14,0,x15)
 let x40:=ZGv x39 x36
 let x41:=x40.2
 let x42:=x41.2
 let x43:=x42.2
 let x44:=x43.2
 let x45:=x44.2
 let x46:=x45.2
 let x47:Int:=bif x38 then x46.1 else p.2.2.2.2.2.2.1
 let x48:=x46.2
 let x49:=x48.2
 let x50:=x49.2
 let x51:=x50.2
 let x52:=x51.2
 let x53:=x52.2
 let x54:=x53.2
 let x55:=x54.2
 let x56:=x55.2
 let x57:=x56.2
 let x58:=x57.2
 let x59:=x58.2
 .br (!x9||(x8||(decide (Za5 p<0)||Zkl x17 (Za5 p)))) (.br (x9) (.br (x7) (.Lf (some (((bif decide (Za5 p<0) then p.1 else x18.1,bif decide (Za5 p<0) then p.2.1 else x19.1,bif decide (Za5 p<0) then p.2.2.1 else x20.1,bif decide (Za5 p<0) then p.2.2.2.1 else x21.1,bif decide (Za5 p<0) then p.2.2.2.2.1 else x22.1,bif decide (Za5 p<0) then p.2.2.2.2.2.1 else x23.1,bif decide (Za5 p<0) then p.2.2.2.2.2.2.1 else x24.1,bif decide (Za5 p<0) then p.2.2.2.2.2.2.2.1 else x25.1,bif decide (Za5 p<0) then p.2.2.2.2.2.2.2.2.1 else x26.1,bif decide (Za5 p<0) then p.2.2.2.2.2.2.2.2.2.1 else x27.1,bif decide (Za5 p<0) then p.2.2.2.2.2.2.2.2.2.2.1 else x28.1,bif decide (Za5 p<0) then p.2.2.2.2.2.2.2.2.2.2.2.1 else x29.1,bif decide (Za5 p<0) then x10 else x30.1,bif decide (Za5 p<0) then x11 else x31.1,bif decide (Za5 p<0) then x12 else x32.1,bif decide (Za5 p<0) then x13 else x33.1,bif decide (Za5 p<0) then x14 else x34.1,1,bif decide (Za5 p<0) then 7 else Za5 p,bif decide (Za5 p<0) then decide (Za5 p<0) else x34.2.2.2),205)))) (.br (x6==1) (.br p.2.2.1 (.Lf (some ((x35,u8.wrap (andI u8 p.2.2.2.2.2.1 224+u8.wrap (i64.wrap (4*x36))))))) (.Lf (some ((x35,u8.wrap (andI u8 p.2.2.2.2.2.1 192+u8.wrap (i64.wrap (8*x36)))))))) (.br (!x38||ZqJ x39 x36) (.Lf (some (((bif x38 then x40.1 else p.1,bif x38 then x41.1 else p.2.1,bif x38 then x42.1 else p.2.2.1,bif x38 then x43.1 else p.2.2.2.1,bif x38 then x44.1 else p.2.2.2.2.1,bif x38 then x45.1 else p.2.2.2.2.2.1,x47,bif x38 then x48.1 else p.2.2.2.2.2.2.2.1,bif x38 then x49.1 else p.2.2.2.2.2.2.2.2.1,bif x38 then x50.1 else p.2.2.2.2.2.2.2.2.2.1,bif x38 then x51.1 else p.2.2.2.2.2.2.2.2.2.2.1,bif x38 then x52.1 else p.2.2.2.2.2.2.2.2.2.2.2.1,bif x38 then x53.1 else x10,bif x38 then x54.1 else x11,bif x38 then x55.1 else x12,bif x38 then x56.1 else x13,bif x38 then x57.1 else x14,bif x38 then x58.1 else 0,bif x38 then x59.1 else x16,bif x38 then x59.2 else x37),x47)))) (.Lf none)))) (.Lf none)) (.Lf none)
def ZUs (p:PICT):PICT×Int:=getO ZsV.Df (Zw6 p).val
def ZLb (p:PICT):Bool:=okB (Zw6 p).val
def ZW5:En:=Zg Zz9 ZsV (λa=>some (ZLb a)) (λa=>ZUs a)
theorem ZQh:Zb prog 203 ZW5:=
 pureP 134219839 [(268,ZsR),(271,Zz3),(272,ZK7)] [] Zz9 ZsV ⟨Zni,Zw1,ZD5,Tv⟩ Tryz.func203 Tryz.call203 trivial (t:=λa=>Zw6 a)
abbrev ZCs:List Sh:=[Sh.agg (R.Pq (R.int u16) (R.Pq (R.int u8) (R.int i64)))]
abbrev ZCt:Rs:=Rs.one (Sh.one R.bool)
def ZOz (d:QT4):RT (Bool):=
 .Lf (decide (d.2.2>0))
def ZRP (d:QT4):Bool:=(ZOz d).val
def ZS5:En:=Zg ZCs ZCt (λ_=>none) (λa=>ZRP a)
theorem ZFC:Zb prog 141 ZS5:=
 pureQ 7 [] [] ZCs ZCt trivial Tryz.func141 Tryz.call141 trivial (t:=λa=>ZOz a)
abbrev ZuU:List Sh:=[Sh.agg (R.Pq (R.int u16) (R.Pq (R.int u8) (R.int i64))),Sh.one (R.int i64)]
abbrev ZuV:Rs:=Rs.one (Sh.one (R.int u8))
def ZCu (d:QT4) (r:Int):RT (Int):=
 .br (andI i64 r 3==0) (.Lf (u8.wrap d.1)) (.br (andI i64 r 3==1) (.Lf (u8.wrap (shrI u16 d.1 8))) (.br (andI i64 r 3==2) (.Lf d.2.1) (.Lf (u8.wrap d.2.2))))
def ZFD (d:QT4) (r:Int):Int:=(ZCu d r).val
def ZV2:En:=Zg ZuU ZuV (λ_=>none) (λa=>ZFD a.1 a.2)
theorem ZOA:Zb prog 206 ZV2:=
 pureQ 266399 [] [] ZuU ZuV trivial Tryz.func206 Tryz.call206 trivial (t:=λa=>ZCu a.1 a.2)
abbrev Zps:List Sh:=[Sh.agg (R.Pq (R.int u16) (R.Pq (R.int u8) (R.int i64))),Sh.one (R.int i64),Sh.one (R.int u8)]
abbrev Zpt:Rs:=Rs.one (Sh.agg (R.Pq (R.int u16) (R.Pq (R.int u8) (R.int i64))))
def ZuT (d:QT4) (r:Int) (v:Int):RT (QT4):=
 .Lf ((bif andI i64 r 3==0 then orI u16 (andI u16 d.1 65280) (u16.wrap v) else bif andI i64 r 3==1 then orI u16 (andI u16 d.1 255) (shlI u16 (u16.wrap v) 8) else d.1,bif andI i64 r 3==0 then d.2.1 else bif andI i64 r 3==1 then d.2.1 else bif andI i64 r 3==2 then v else d.2.1,bif andI i64 r 3==0 then d.2.2 else bif andI i64 r 3==1 then d.2.2 else bif andI i64 r 3==2 then d.2.2 else bif andI i64 r 3==3 then i64.wrap v else d.2.2))
def ZCp (d:QT4) (r:Int) (v:Int):QT4:=(ZuT d r v).val
def ZRN:En:=Zg Zps Zpt (λ_=>none) (λa=>ZCp a.1 a.2.1 a.2.2)
theorem ZIe:Zb prog 208 ZRN:=
 pureQ 4563665535 [] [] Zps Zpt trivial Tryz.func208 Tryz.call208 trivial (t:=λa=>ZuT a.1 a.2.1 a.2.2)
abbrev ZCq:List Sh:=[Sh.agg (R.Pq (R.int u16) (R.Pq (R.int u8) (R.int i64)))]
abbrev ZCr:Rs:=Rs.tup [Sh.agg (R.Pq (R.int u16) (R.Pq (R.int u8) (R.int i64))),Sh.agg (R.Pq (R.int u16) (R.int u8)),Sh.one R.bool]
def ZOy (d:QT4):RT ((QT4)×(Int×Int)×Bool):=
 .br (!ZRP d) (.Lf (((0,0,0),(0,0),false))) (.Lf (((u16.wrap (d.1+1),d.2.1,i64.wrap (d.2.2-1)),(d.1,d.2.1),true)))
def ZV1 (d:QT4):(QT4)×(Int×Int)×Bool:=(ZOy d).val
def ZXN:En:=Zg ZCq ZCr (λ_=>none) (λa=>ZV1 a)
theorem ZRO:Zb prog 142 ZXN:=
 pureQ 63 [(141,ZS5)] [] ZCq ZCr ⟨ZFC,Tv⟩ Tryz.func142 Tryz.call142 trivial (t:=λa=>ZOy a)
def mapG {α β:Type} (φ:α->β):Go1 α->Go1 β
 | .cont a=>.cont (φ a)
 | .brk a=>.brk (φ a)
 | .ret a=>.ret (φ a)
theorem ZDd {α β:Type} (φ:α->β) {f:α->Option (Go1 α)} {g:β->Option (Go1 β)} (h:∀a,g (φ a)=(f a).map (mapG φ)):∀(n:Nat) (a:α),runL g n (φ a)=(runL f n a).map λr=>(r.1,φ r.2)
 |0,a=>rfl
 |n+1,a=>by
  unfold runL;rw[h a];cases hf:f a with
  |none=>rfl
  |some r=>cases r with
   |cont a'=>exact ZDd φ h n a'
   |brk a'=>rfl
   |ret a'=>rfl
theorem ZDf {α β:Type} (φ:α->β) {f:α->RT (Option (Go1 α))} {g:β->RT (Option (Go1 β))} (h:∀a,(g (φ a)).val=((f a).val).map (mapG φ)) (fl:Bool) (n:Nat) (a:α):
  runF fl g (λ_=>n) (φ a)=(runF fl f (λ_=>n) a).map λr=>(r.1,φ r.2):=by
 unfold runF;rw[ZDd φ h n a];cases runL (λa=>(f a).val) n a with
 |none=>rfl
 |some r=>obtain⟨b,d⟩:=r;cases fl<;>cases b<;>rfl
theorem ZH5:(List.range 256).all (λs=>(List.range 8).all λk=>(Zie (s:Int) (k:Int)).val==some (Zdx (s:Int) (k:Int))&&ZiF (s:Int) (k:Int))=true:=by kernel_rfl
theorem ZyX (k:Int):andI .i64 (andI .i64 k 7) 7=andI .i64 k 7:=by
 obtain⟨h0,h1⟩:=and7 k;generalize andI .i64 k 7=v at*;have:v=0\/v=1\/v=2\/v=3\/v=4\/v=5\/v=6\/v=7:=by omega
 rcases this with rfl|rfl|rfl|rfl|rfl|rfl|rfl|rfl<;>decide
def phiK (a:QT24):QT24:=(a.1,andI .i64 a.2.1 7,a.2.2)
theorem ZP9 (s k:Int):(Zie s k).val=(Zie s (andI .i64 k 7)).val:=by
 have h:=ZDf phiK (f:=Zdy) (g:=Zdy) (by
  rintro⟨s,k,r,i,u⟩;simp only[Zdy,phiK,RT.val,ZyX]
  cases h3:(andI u8 (shrI u8 s (andI i64 (i64.wrap (andI i64 k 7+i)) 7)) 1==1)<;>by_cases h1:i<=8<;>by_cases h2:0<=andI i64 (i64.wrap (andI i64 k 7+i)) 7<;>simp[h1,h2,mapG,phiK]) true 9 (s,k,0,1,())
 have h':runF true Zdy (λ_=>9) (s,andI .i64 k 7,0,1,())=(runF true Zdy (λ_=>9) (s,k,0,1,())).map λr=>(r.1,phiK r.2):=h
 simp only[Zie,RT.val,h'];cases runF true Zdy (λ_=>9) (s,k,0,1,()) with
 |none=>rfl
 |some r=>obtain⟨b,d⟩:=r;cases b<;>rfl
theorem ZTs (l k:Int):Zde l (andI .i64 k 7)=Zde l k:=by simp only[Zde,ZIK,RT.val,ZyX]
theorem ZTy (s k:Int):(Zmy s k).val=(Zmy s (andI .i64 k 7)).val:=by
 have h:=ZDf phiK (f:=Zdv) (g:=Zdv) (by
  rintro⟨s,k,r,i,u⟩;simp only[Zdv,phiK,RT.val,ZTs]
  cases h3:vOnC s i<;>by_cases h1:i<8<;>by_cases q1:r<0<;>by_cases q2:Zde i k<Zde r k<;>cases vOn s i<;>simp[h1,q1,q2,mapG,phiK]) false 9 (s,k,-1,0,())
 have h':runF false Zdv (λ_=>9) (s,andI .i64 k 7,-1,0,())=(runF false Zdv (λ_=>9) (s,k,-1,0,())).map λr=>(r.1,phiK r.2):=h
 simp only[Zmy,RT.val,h'];cases runF false Zdv (λ_=>9) (s,k,-1,0,()) with
 |none=>rfl
 |some r=>rfl
theorem ZCi (s k:Int) (hs:inR .u8 s):Zif s k=true/\ZiF s k=true/\Zi3 s k=Zdx s k:=by
 obtain⟨h0,h1⟩:=and7 k;rw[ZhV] at hs;obtain⟨a,rfl⟩:∃a:Nat,s=(a:Int):=⟨s.toNat,by omega⟩;obtain⟨b,hb⟩:∃b:Nat,andI .i64 k 7=(b:Int):=⟨(andI .i64 k 7).toNat,by omega⟩;have key:=YW.1 (YW.1 ZH5 a (by simp;omega)) b (by simp;omega);simp only[Yb,Yax] at key;obtain⟨k1,k2⟩:=key;have e1:=ZP9 (a:Int) k;have e2:=ZTy (a:Int) k;rw[hb] at e1 e2;rw[k1] at e1;have e3:Zdx (a:Int) k=Zdx (a:Int) (b:Int):=by simp only[Zdx,e2]
 have e4:ZiF (a:Int) k=true:=by simp only[ZiF,e2];exact k2
 refine⟨by simp only[Zif,e1,okB],e4,?_⟩;simp only[Zi3,e1,getO,e3]
theorem ZT6 (l k:Int):ZwY l k=Zde l k:=by
 simp only[ZwY,ZzZ,Zde,ZIK,RT.val];obtain⟨a0,a1⟩:=and7 l;obtain⟨b0,b1⟩:=and7 k;generalize andI .i64 l 7=a at*;generalize andI .i64 k 7=b at*;obtain⟨x,rfl⟩:∃x:Nat,a=(x:Int):=⟨a.toNat,by omega⟩;obtain⟨y,rfl⟩:∃y:Nat,b=(y:Int):=⟨b.toNat,by omega⟩;have key:(List.range 8).all (λx=>(List.range 8).all λy=>andI i64 (i64.wrap (i64.wrap ((x:Int)-(y:Int))+7)) 7==andI i64 (i64.wrap (i64.wrap ((x:Int)-(y:Int))+15)) 7)=true:=by kernel_rfl
 have:=YW.1 (YW.1 key x (by simp;omega)) y (by simp;omega);simpa using this
theorem ZD1 (r m s k:Int) (p:Bool) (hs:inR .u8 s):ZsI r m s k p=true/\Zvp r m s k p=true/\ZDZ r m s k p=ZF1 r m s k p:=by
 obtain⟨a1,a2,a3⟩:=ZCi (ZX u8 r m) k (Zao _ _);have hb:inR .u8 (ZcQ m s p):=by
  cases p
  ·simpa [ZcQ,ZmA,RT.val] using hs
  ·have:ZcQ m s true=ZX u8 s m:=by simp[ZcQ,ZmA,RT.val]
   rw[this];exact Zao _ _
 have eb:(bif p then ZX u8 s m else s)=ZcQ m s p:=by cases p<;>simp[ZcQ,ZmA,RT.val]
 obtain⟨b1,b2,b3⟩:=ZCi (ZcQ m s p) k hb;have h1:(Znb r m s k p).val=(Zmx r m s k p).val:=by
  simp only[Znb,Zmx,RT.val,eb,a1,a2,b1,b2,a3,b3,ZT6,Ya,Yh];generalize Zdx (ZX u8 r m) k=x;generalize Zdx (ZcQ m s p) k=y;by_cases q1:x<0
  ·have:¬x>=0:=by omega
   simp[q1,this]
  ·have q1':x>=0:=by omega
   by_cases q2:y<0
   ·have:¬y>=0:=by omega
    simp[q1,q1',q2,this]
   ·have q2':y>=0:=by omega
    by_cases q3:Zde x k<Zde y k
    ·have:¬Zde x k>=Zde y k:=by omega
     simp[q1,q1',q2,q2',q3,this]
    ·have q3':Zde x k>=Zde y k:=by omega
     simp[q1,q1',q2,q2',q3,q3']
 have h2:Zvp r m s k p=true:=by simp only[Zvp,Zmx,RT.val,a2,b2,Ya];cases (decide (Zdx (ZX u8 r m) k>=0)&&(decide (Zdx (ZcQ m s p) k<0)||decide (Zde (Zdx (ZX u8 r m) k) k<Zde (Zdx (ZcQ m s p) k) k)))<;>rfl
 refine⟨?_,h2,by simp only[ZDZ,ZF1,h1]⟩;simp only[ZsI,h1];exact h2
theorem ZJW (p:PICT):ZGt p=vReq p:=by simp only[ZGt,ZKY,vReq,ZWj,RT.val]
theorem ZPT (p:PICT) (l:Int):Zz5 p l=ZaJ p l:=by simp only[Zz5,ZsP,ZaJ,ZIL,RT.val]
theorem ZLj (p:PICT) (hs:inR .u8 p.2.2.2.2.2.2.2.2.2.2.2.2.2.2.1):Zkm p=true/\ZrK p=true/\Za5 p=vPck p:=by
 obtain⟨h1,h2,h3⟩:=ZD1 (vReq p) p.2.2.2.2.2.2.2.2.2.2.2.2.2.2.2.1 p.2.2.2.2.2.2.2.2.2.2.2.2.2.2.1 p.2.2.2.2.2.2.2.2.2.2.2.2.2.2.2.2.1 p.2.2.2.2.2.2.2.2.2.1 hs;have e1:(Znj p).val=some (ZF1 (vReq p) p.2.2.2.2.2.2.2.2.2.2.2.2.2.2.2.1 p.2.2.2.2.2.2.2.2.2.2.2.2.2.2.1 p.2.2.2.2.2.2.2.2.2.2.2.2.2.2.2.2.1 p.2.2.2.2.2.2.2.2.2.1):=by simp only[Znj,RT.val,ZJW,h1,h3,Ya]
 have e2:(ZF2 p).val=some (ZF1 (vReq p) p.2.2.2.2.2.2.2.2.2.2.2.2.2.2.2.1 p.2.2.2.2.2.2.2.2.2.2.2.2.2.2.1 p.2.2.2.2.2.2.2.2.2.2.2.2.2.2.2.2.1 p.2.2.2.2.2.2.2.2.2.1):=by simp only[ZF2,RT.val,h2,Ya]
 exact⟨by simp only[Zkm,e1,okB],by simp only[ZrK,e2,okB],by simp only[Za5,vPck,e1,e2]⟩
theorem ZS1 (p:PICT) (hs:inR .u8 p.2.2.2.2.2.2.2.2.2.2.2.2.2.2.1):ZK5 p=true/\ZIN p=true/\ZUr p=vInt p:=by
 obtain⟨h1,h2,h3⟩:=ZD1 (vReq p) p.2.2.2.2.2.2.2.2.2.2.2.2.2.2.2.1 p.2.2.2.2.2.2.2.2.2.2.2.2.2.2.1 p.2.2.2.2.2.2.2.2.2.2.2.2.2.2.2.2.1 p.2.2.2.2.2.2.2.2.2.1 hs;obtain⟨g1,g2,g3⟩:=ZLj p hs;have e2:(ZIM p).val=some (decide (vPck p>=0)):=by simp only[ZIM,RT.val,g2,Ya]
 have e1:(Zw3 p).val=some (decide (vPck p>=0)):=by simp only[Zw3,RT.val,g1,g3,ZJW,h1,h3,Ya]
 exact⟨by simp only[ZK5,e1,okB],by simp only[ZIN,e2,okB],by simp only[ZUr,vInt,e1,e2]⟩
theorem ZOw (d):ZRP d=Zn d:=by simp only[ZRP,ZOz,Zn,Zvm,RT.val]
theorem ZOv (d:QT4) (r v:Int):ZCp d r v=ZdD d r v:=by
 obtain⟨h0,h3⟩:=and3 r;simp only[ZCp,ZuT,ZdD,ZCO,RT.val];generalize andI .i64 r 3=q at*;have:q=0\/q=1\/q=2\/q=3:=by omega
 rcases this with rfl|rfl|rfl|rfl<;>simp
theorem ZV0 (d):ZV1 d=ZaI d:=by simp only[ZV1,ZOy,ZaI,Zha,RT.val,ZOw]
theorem ZRL (d:QT4) (r:Int):Zmw d r=true/\ZFD d r=ZhM d r:=by
 obtain⟨h0,h3⟩:=and3 r;have hv:(Zmv d r).val=some (ZFD d r):=by
  simp only[Zmv,ZFD,ZCu,RT.val];generalize andI .i64 r 3=q at*;have:q=0\/q=1\/q=2\/q=3:=by omega
  rcases this with rfl|rfl|rfl|rfl<;>simp[iN]
 exact⟨by simp only[Zmw,hv,okB],by simp only[ZhM,hv,getO]⟩
theorem ZPx (p:PICT) (x:Int):ZsM p x=Zvl p x:=rfl
theorem ZJr (p:PICT) (x:Int):ZqH p x=ZF0 p x/\Zkl p x=ZhL p x:=by simp only[ZqH,ZF0,Zkl,ZhL,ZPx];exact⟨trivial,Tv⟩
theorem ZVU (p:PICT) (x:Int):ZD6 p x=ZCS p x:=rfl
theorem ZS4 (p:PICT) (x:Int):ZGv p x=ZIO p x/\ZqJ p x=ZiG p x:=by simp only[ZGv,ZIO,ZqJ,ZiG,ZVU];exact⟨trivial,Tv⟩
theorem ZV5 (p:PICT) (v:Int):ZD9 p v=ZrM p v:=by simp only[ZD9,Zz7,ZrM,Zvs,RT.val];cases p.2.2.2.1<;>rfl
theorem ZSe (p:PICT) (x:Int):ZqH p x=ZF0 p x:=(ZJr p x).1
theorem ZSd (p:PICT) (x:Int):Zkl p x=ZhL p x:=(ZJr p x).2
theorem ZXJ (p:PICT) (x:Int):ZGv p x=ZIO p x:=(ZS4 p x).1
theorem ZXI (p:PICT) (x:Int):ZqJ p x=ZiG p x:=(ZS4 p x).2
theorem ZWc (p:PICT) (hs:inR .u8 p.2.2.2.2.2.2.2.2.2.2.2.2.2.2.1):(Zw6 p).val=(ZIQ p).val:=by
 obtain⟨g1,g2,g3⟩:=ZLj p hs;have hd:decide (vPck p>=0)= !decide (vPck p<0):=by
  by_cases h:vPck p<0
  ·have:¬vPck p>=0:=by omega
   simp[h,this]
  ·have:vPck p>=0:=by omega
   simp[h,this]
 simp only[Zw6,ZIQ,RT.val,g1,g2,g3,ZSe,ZSd,ZXJ,ZXI,hd];cases h:decide (vPck p<0)
 ·have h0:decide (0<=vPck p)=true:=by simp at h|-;omega
  simp only[ZF0,ZhL,Zvl,RT.val,h0,getO,okB,Yf,Ym,Ya,Yc,Yv,Yi]
 ·simp only[Yf,Ym,Ya,Yc,Yv,Yi]
theorem ZTg (p:PICT) (hs:inR .u8 p.2.2.2.2.2.2.2.2.2.2.2.2.2.2.1):ZUs p=vAck p/\ZLb p=ZIR p:=by simp only[ZUs,vAck,ZLb,ZIR,ZWc p hs];exact⟨trivial,Tv⟩
theorem ZXz (x:Int):decide (x>=0)= !decide (x<0):=by by_cases h:x<0<;>simp[h]<;>omega
theorem ZXA (x:Int):decide (0<=x)= !decide (x<0):=by by_cases h:x<0<;>simp[h]<;>omega
theorem ZQ4 (p:PICT) (v:Int) (hs:inR .u8 p.2.2.2.2.2.2.2.2.2.2.2.2.2.2.1):(Zw5 p v).val=(Zvq p v).val:=by
 have eb:(bif p.2.2.2.2.2.2.2.2.2.1 then ZX u8 p.2.2.2.2.2.2.2.2.2.2.2.2.2.2.1 p.2.2.2.2.2.2.2.2.2.2.2.2.2.2.2.1 else p.2.2.2.2.2.2.2.2.2.2.2.2.2.2.1)=ZcQ p.2.2.2.2.2.2.2.2.2.2.2.2.2.2.2.1 p.2.2.2.2.2.2.2.2.2.2.2.2.2.2.1 p.2.2.2.2.2.2.2.2.2.1:=by cases p.2.2.2.2.2.2.2.2.2.1<;>simp[ZcQ,ZmA,RT.val]
 have hb:inR .u8 (ZcQ p.2.2.2.2.2.2.2.2.2.2.2.2.2.2.2.1 p.2.2.2.2.2.2.2.2.2.2.2.2.2.2.1 p.2.2.2.2.2.2.2.2.2.1):=by
  rw[<-eb];cases p.2.2.2.2.2.2.2.2.2.1
  ·exact hs
  ·exact Zao _ _
 obtain⟨h1,h2,h3⟩:=ZCi _ p.2.2.2.2.2.2.2.2.2.2.2.2.2.2.2.2.1 hb;have h4:decide (0<=IntKind.wrap .i64 (andI .u8 v 7))=true:=by have:=ZXS v;rw[wrap_i64 _ (by omega) (by omega)];exact YA this.1
 simp only[Zw5,Zvq,RT.val,eb,h1,h2,h3,h4,ZXz,ZXA,ZaM,Zae,Yh,Yf,Yar,Bool.not_not,Yt,Yi,Ya,Yc];generalize shrI u8 v 5=w;generalize Zdx _ _=t;by_cases w0:w=0
 ·subst w0;rfl
 by_cases w1:w=1
 ·subst w1;cases decide (t<0)<;>rfl
 by_cases w3:w=3
 ·subst w3;rfl
 by_cases w4:w=4
 ·subst w4;rfl
 by_cases w5:w=5
 ·subst w5;cases decide (t<0)<;>rfl
 by_cases w6:w=6
 ·subst w6;rfl
 by_cases w7:w=7
 ·subst w7;rfl
 have e0:(w==0)=false:=by simpa using w0
 have e1:(w==1)=false:=by simpa using w1
 have e3:(w==3)=false:=by simpa using w3
 have e4:(w==4)=false:=by simpa using w4
 have e5:(w==5)=false:=by simpa using w5
 have e6:(w==6)=false:=by simpa using w6
 have e7:(w==7)=false:=by simpa using w7
 rw[e0,e1,e3,e4,e5,e6,e7];rfl
theorem ZVl (p:PICT) (v:Int) (hs:inR .u8 p.2.2.2.2.2.2.2.2.2.2.2.2.2.2.1):ZQg p v=ZTv p v/\ZEa p v=Zvr p v:=by simp only[ZQg,ZTv,ZEa,Zvr,ZQ4 p v hs];exact⟨trivial,Tv⟩
theorem ZIr (p:PICT) (h:Bool) (v:Int) (hs:inR .u8 p.2.2.2.2.2.2.2.2.2.2.2.2.2.2.1):(Zi4 p h v).val=(Zmt p h v).val:=by obtain⟨h1,h2⟩:=ZVl p v hs;have hf:Zmz p v=(2,andI u8 v 8 !=0,andI u8 v 4 !=0,andI u8 v 2 !=0,andI u8 v 1 !=0,andI u8 v 224,0,false,false,false,false,false,p.2.2.2.2.2.2.2.2.2.2.2.2.1,0,0,0,7,0,0,false):=rfl;simp only[Zi4,Zmt,RT.val,h1,h2,hf,ZV5,Bool.or_comm (andI u8 v 4 !=0)]
theorem ZCH (p:PICT) (h:Bool) (v:Int) (hs:inR .u8 p.2.2.2.2.2.2.2.2.2.2.2.2.2.2.1):Zz2 p h v=Zba p h v/\ZsL p h v=Zmu p h v:=by simp only[Zz2,Zba,ZsL,Zmu,ZIr p h v hs];exact⟨trivial,Tv⟩
def ZrN (p:PICT):PICT:=(p.1,p.2.1,p.2.2.1,p.2.2.2.1,p.2.2.2.2.1,p.2.2.2.2.2.1,p.2.2.2.2.2.2.1,p.2.2.2.2.2.2.2.1,p.2.2.2.2.2.2.2.2.1,p.2.2.2.2.2.2.2.2.2.1,p.2.2.2.2.2.2.2.2.2.2.1,false,p.2.2.2.2.2.2.2.2.2.2.2.2)
theorem Zp6 (p:PICT):vPck (ZrN p)=vPck p/\ZrK (ZrN p)=ZrK p:=⟨rfl,rfl⟩
theorem ZQb (x:Int) (h0: -1<=x) (h1:x<=7):IntKind.wrap .u8 (128+IntKind.wrap .u8 x)=IntKind.wrap .u8 (IntKind.wrap .i64 (128+x)):=by
 have:x= -1\/x=0\/x=1\/x=2\/x=3\/x=4\/x=5\/x=6\/x=7:=by omega
 rcases this with rfl|rfl|rfl|rfl|rfl|rfl|rfl|rfl|rfl<;>decide
theorem ZPQ (p:PICT) (h:Bool) (hs:inR .u8 p.2.2.2.2.2.2.2.2.2.2.2.2.2.2.1):(Zne p h).val=(Zvn p h).val:=by obtain⟨g1,g2,g3⟩:=ZLj (ZrN p) hs;rw[(Zp6 p).1] at g3;rw[(Zp6 p).2] at g2;obtain⟨_,a1,a2⟩:=ZrJ p;have hx:(p.1,p.2.1,p.2.2.1,p.2.2.2.1,p.2.2.2.2.1,p.2.2.2.2.2.1,p.2.2.2.2.2.2.1,p.2.2.2.2.2.2.2.1,p.2.2.2.2.2.2.2.2.1,p.2.2.2.2.2.2.2.2.2.1,p.2.2.2.2.2.2.2.2.2.2.1,false,p.2.2.2.2.2.2.2.2.2.2.2.2)=ZrN p:=rfl;simp only[Zne,Zvn,RT.val,hx,g1,g2,g3,ZSe,ZSd,ZXJ,ZXI,ZJW,ZQb _ a1 a2,ZaM,Zae,Yh,Yf,Yi]
theorem ZJZ (p:PICT) (h:Bool) (hs:inR .u8 p.2.2.2.2.2.2.2.2.2.2.2.2.2.2.1):ZK2 p h=ZiE p h/\Zz4 p h=Zvo p h:=by simp only[ZK2,ZiE,Zz4,Zvo,ZPQ p h hs];exact⟨trivial,Tv⟩
end
end Go.Proofs.YtpnjbfjomebppaaGreat
