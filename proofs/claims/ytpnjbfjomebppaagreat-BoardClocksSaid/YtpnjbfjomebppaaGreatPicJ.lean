import Derived.Test.YtpnjbfjomebppaaGreatIsaQ
open Go.IntKind (u8 u16 i64)
open Go Go.S3 Go.Proofs Go.Proofs.Cells
set_option linter.unusedVariables false
set_option linter.unusedSimpArgs false
set_option maxRecDepth 100000
namespace Go.Proofs.YtpnjbfjomebppaaGreat
noncomputable section
theorem smCb {l:List Cell} (h:l.length<=1000000):smC l=true:=ZaF (by have:=mst;omega)
theorem smGb {l:List Z5} (h:l.length<=1000000):smG l=true:=ZaF (by have:=mst;omega)
def ZZ (b:BRDT) (s:SYST) (i:INPT):SYST:=(s.1,s.2.1,(bif !b.2.2.2.2.2.1 then ZaL s.2.2.1 i.2.2.2.2.2.2.2.2.1 else s.2.2.1),s.2.2.2)
def ZeX (b:BRDT) (s:SYST) (i:INPT):LINT:=
 (i.1&&decide (ZbN s>=ZLT b s.1.2.2.2.1),i.2.1||ZM s.2.2.2.1,i.2.2.1,i.2.2.2.1,i.2.2.2.2.1,i.2.2.2.2.2.1,i.2.2.2.2.2.2.1,i.2.2.2.2.2.2.2.1,
  bif b.2.2.2.2.2.1 then andI .u8 i.2.2.2.2.2.2.2.2.1 1==1 else vInt s.2.2.1)
def busS (b:BRDT) (s:SYST) (i:INPT):SYST×Int:=
 let x:=s.1.2.2.2.1
 let q:=Z8 b (IntKind.wrap .u8 x.2.1)
 let d:=Zca b (IntKind.wrap .u8 x.2.1)
 bif i.2.2.1||(Zad s.1 !=3|| !Zbi x.1) then (s,0) else
 bif decide (x.1>=1)&&decide (x.1<=5) then (s,Zfn b.2.1 s.2.1 x.2.1) else
 bif x.1 !=6&&b.2.2.2.2.2.1 then (s,i.2.2.2.2.2.2.2.2.2) else
 bif x.1 !=6 then ((s.1,s.2.1,(vAck s.2.2.1).1,s.2.2.2),(vAck s.2.2.1).2) else
 bif q.2 then ((s.1,s.2.1,(ZkJ s.2.2.1 q.1).1,s.2.2.2),(ZkJ s.2.2.1 q.1).2) else
 bif d.2 then (s,Zis s.2.2.2.1 d.1) else (s,i.2.2.2.2.2.2.2.2.2)
def ZgZ (b:BRDT) (s:SYST) (x:TY):SYST:=
 let q:=Z8 b (IntKind.wrap .u8 x.2.1)
 let d:=Zca b (IntKind.wrap .u8 x.2.1)
 bif x.1 !=7 then (s.1,ZaV b.2.1 s.2.1 x.2.1 x.2.2.1,s.2.2) else
 (s.1,s.2.1,(bif q.2 then Zby s.2.2.1 q.1 x.2.2.1 else s.2.2.1),(bif q.2 then s.2.2.2.1 else bif d.2 then ZeA s.2.2.2.1 d.1 x.2.2.1 else s.2.2.2.1),s.2.2.2.2.1,
  s.2.2.2.2.2++[(IntKind.wrap .u8 x.2.1,x.2.2.1)])
def Z6B (p:PICT) (n:Int):PICT:=
 (p.1,p.2.1,p.2.2.1,p.2.2.2.1,p.2.2.2.2.1,p.2.2.2.2.2.1,p.2.2.2.2.2.2.1,p.2.2.2.2.2.2.2.1,p.2.2.2.2.2.2.2.2.1,p.2.2.2.2.2.2.2.2.2.1,p.2.2.2.2.2.2.2.2.2.2.1,p.2.2.2.2.2.2.2.2.2.2.2.1,
  p.2.2.2.2.2.2.2.2.2.2.2.2.1,p.2.2.2.2.2.2.2.2.2.2.2.2.2.1,p.2.2.2.2.2.2.2.2.2.2.2.2.2.2.1,p.2.2.2.2.2.2.2.2.2.2.2.2.2.2.2.1,p.2.2.2.2.2.2.2.2.2.2.2.2.2.2.2.2.1,n,p.2.2.2.2.2.2.2.2.2.2.2.2.2.2.2.2.2.2)
def ZPe (p:PINT):Bool:=p.2.2.2.2.2.2.2.2.2.2.2.2.2.2.2.1
def Zal (s:SYST) (i:INPT):Bool:= !i.2.2.1&&(Zad s.1==3&&ZcW s.1.2.2.2.1.1)
def ZhL (b:BRDT) (s:SYST) (i:INPT):SYST:=
 let t:=ZZ b s i
 let u:=busS b t i
 ((ZbM u.1.1 (ZeX b t i) u.2),u.1.2.1,u.1.2.2.1,u.1.2.2.2.1,ZbN t,u.1.2.2.2.2.2)
def ZbB (b:BRDT) (s:SYST) (i:INPT):SYST:=bif Zal s i then ZgZ b (ZhL b s i) s.1.2.2.2.1 else ZhL b s i
def pinS (b:BRDT) (s:SYST) (i:INPT):PINT:=Zmt (busS b (ZZ b s i) i).1.1 (ZeX b (ZZ b s i) i) (busS b (ZZ b s i) i).2
def ZBH (b:BRDT) (s:SYST) (i:INPT):Bool:=ZPe (pinS b s i)&&ZM (ZbB b s i).2.2.2.1
def ZBI (b:BRDT) (s:SYST) (i:INPT):SYST:=
 let w:=ZbB b s i
 bif ZBH b s i then (w.1,ZaV b.2.1 w.2.1 w.2.2.2.1.1 w.2.2.2.1.2.1,w.2.2.1,(IntKind.wrap .u16 (w.2.2.2.1.1+1),w.2.2.2.1.2.1,IntKind.wrap .i64 (w.2.2.2.1.2.2-1)),w.2.2.2.2) else w
def ZzV (s:SYST) (r:Bool):SYST:=bif r then (s.1,s.2.1,Z6B s.2.2.1 0,(s.2.2.2.1.1,s.2.2.2.1.2.1,0),s.2.2.2.2) else s
def Z9 (b:BRDT) (s:SYST) (i:INPT):SYST×PINT×LINT×Int×Cell×Bool:=
 (ZzV (ZBI b s i) i.2.2.1,pinS b s i,ZeX b (ZZ b s i) i,(busS b (ZZ b s i) i).2,
  (bif ZBH b s i then ((ZbB b s i).2.2.2.1.1,(ZbB b s i).2.2.2.1.2.1) else (0,0)),ZBH b s i)
theorem ZXQ (b:BRDT) (x:TY) (hg:smG b.2.1=true):ZHT b x=true:=by
 unfold ZHT Zr8;simp only[RT.val,hg,Yh,Yb];cases decide (x.1>=1)&&decide (x.1<=5)
 ·cases x.1==6||x.1==7<;>rfl
 ·rfl
theorem ZLV (b:BRDT) (s:SYST) (i:INPT) (hg:smG b.2.1=true):ZmC b s i=true/\Zt7 b s i=ZeX b s i:=by
 have hv:(Zjb b s i).val=some (ZeX b s i):=by unfold Zjb ZeX;simp only[RT.val,Z3p,ZXQ b _ hg,Yh,Yb,YaE]
 exact⟨by simp only[ZmC,hv];rfl,by simp only[Zt7,hv,getO]⟩
theorem Z3g (b:BRDT) (s:SYST) (i:INPT) (hg:smG b.2.1=true) (hc:smC s.2.1=true):ZXU b s i=true/\wBus b s i=busS b s i:=by
 have hv:(ZP5 b s i).val=some (busS b s i):=by
  unfold ZP5 busS;simp only[RT.val,ZQy,ZIa,ZQg,hg,hc,ZbQ,ZaM,R.sel_eq,YY,Yh,Yf,Yj,Yb];cases i.2.2.1||(Zad s.1 !=3|| !Zbi s.1.2.2.2.1.1)
  ·cases decide (s.1.2.2.2.1.1>=1)&&decide (s.1.2.2.2.1.1<=5)
   ·cases s.1.2.2.2.1.1 !=6
    ·cases (Z8 b (IntKind.wrap .u8 s.1.2.2.2.1.2.1)).2
     ·cases (Zca b (IntKind.wrap .u8 s.1.2.2.2.1.2.1)).2<;>rfl
     ·rfl
    ·cases b.2.2.2.2.2.1<;>rfl
   ·rfl
  ·rfl
 exact⟨by simp only[ZXU,hv];rfl,by simp only[wBus,hv,getO]⟩
theorem ZPK (b:BRDT) (s:SYST) (x:TY) (hg:smG b.2.1=true) (hc:smC s.2.1=true) (ho:s.2.2.2.2.2.length<=1000000):Zt6 b s x=true/\ZHR b s x=ZgZ b s x:=by
 have hms:=mst;have h1:Nat.ble (List.length s.2.2.2.2.2) most=true:=ZaF (by omega);have h2:∀y:Int×Int,Nat.ble (List.length (s.2.2.2.2.2++[y])) most=true:=λy=>ZaF (by simp;omega)
 have hv:(Znp b s x).val=some (ZgZ b s x):=by
  unfold Znp ZgZ;simp only[RT.val,Zzk,h1,h2,hg,hc,R.sel_eq,YY,Yh,Yf,Yj,Yb,List.nil_append];cases x.1 !=7
  ·rfl
  ·rfl
 exact⟨by simp only[Zt6,hv];rfl,by simp only[ZHR,hv,getO]⟩
theorem Zky (b:BRDT) (s:SYST) (i:INPT):(busS b s i).1.1=s.1/\(busS b s i).1.2.1=s.2.1/\(busS b s i).1.2.2.2=s.2.2.2:=by
 unfold busS;dsimp only;cases i.2.2.1||(Zad s.1 !=3|| !Zbi s.1.2.2.2.1.1)
 ·cases decide (s.1.2.2.2.1.1>=1)&&decide (s.1.2.2.2.1.1<=5)
  ·cases s.1.2.2.2.1.1 !=6
   ·cases (Z8 b (IntKind.wrap .u8 s.1.2.2.2.1.2.1)).2
    ·cases (Zca b (IntKind.wrap .u8 s.1.2.2.2.1.2.1)).2<;>exact⟨rfl,rfl,rfl⟩
    ·exact⟨rfl,rfl,rfl⟩
   ·cases b.2.2.2.2.2.1<;>exact⟨rfl,rfl,rfl⟩
  ·exact⟨rfl,rfl,rfl⟩
 ·exact⟨rfl,rfl,rfl⟩
theorem ZzE (b:BRDT) (s:SYST) (x:TY):(ZgZ b s x).1=s.1/\(ZgZ b s x).2.1.length<=s.2.1.length+1/\(ZgZ b s x).2.2.2.2.2.length<=s.2.2.2.2.2.length+1:=by
 have:=Znn b.2.1 s.2.1 x.2.1 x.2.2.1;unfold ZgZ;dsimp only;cases x.1 !=7
 ·exact⟨rfl,by simp only[Yc];omega,by simp only[Yc];simp⟩
 ·exact⟨rfl,by simp only[Yb];omega,by simp only[Yb];omega⟩
theorem ZLG (b:BRDT) (s:SYST) (i:INPT):(ZhL b s i).2.1=s.2.1/\(ZhL b s i).2.2.2.2.2=s.2.2.2.2.2:=by have h:=Zky b (ZZ b s i) i;unfold ZhL;simp only[h.1,h.2.1,h.2.2];exact⟨rfl,rfl⟩
theorem ZyZ (b:BRDT) (s:SYST) (i:INPT):(ZbB b s i).1=(ZhL b s i).1/\(ZbB b s i).2.1.length<=s.2.1.length+1/\(ZbB b s i).2.2.2.2.2.length<=s.2.2.2.2.2.length+1:=by
 have h1:=ZLG b s i;have h2:=ZzE b (ZhL b s i) s.1.2.2.2.1;rw[h1.1,h1.2] at h2;unfold ZbB;cases Zal s i
 ·exact⟨rfl,by simp only[Yc,h1.1];omega,by simp only[Yc,h1.2];omega⟩
 ·exact h2
theorem ZrG (b:BRDT) (s:SYST) (i:INPT):(Z9 b s i).1.1=(ZhL b s i).1/\(Z9 b s i).1.2.1.length<=s.2.1.length+2/\(Z9 b s i).1.2.2.2.2.2.length<=s.2.2.2.2.2.length+1:=by have h1:=ZyZ b s i;have h2:=Znn b.2.1 (ZbB b s i).2.1 (ZbB b s i).2.2.2.1.1 (ZbB b s i).2.2.2.1.2.1;unfold Z9 ZzV ZBI;dsimp only;cases ZBH b s i<;>cases i.2.2.1<;>simp only[Yb,Yc]<;>exact⟨h1.1,by omega,h1.2.2⟩
theorem Zzf (b:BRDT) (s:SYST) (i:INPT) (hg:smG b.2.1=true) (hc:s.2.1.length<=900000) (ho:s.2.2.2.2.2.length<=900000) (hk:s.1.2.2.1.length<=900000):
  Zny b s i=true/\Zzg b s i=Z9 b s i:=by
 have hms:=mst;have hv:(Znx b s i).val=some (Z9 b s i):=by
  have hr:(s.1,s.2.1,(bif !b.2.2.2.2.2.1 then ZaL s.2.2.1 i.2.2.2.2.2.2.2.2.1 else s.2.2.1),s.2.2.2)=ZZ b s i:=rfl;have h1:=ZLV b (ZZ b s i) i hg;have h2:=Z3g b (ZZ b s i) i hg (smCb (by show s.2.1.length<=_;omega));have h3:=Zky b (ZZ b s i) i;have h4:Zms (busS b (ZZ b s i) i).1.1=true:=by rw[h3.1];exact ZdV.2 (by show s.1.2.2.1.length+1<=_;omega)
  have h5:=ZLG b s i;have h6:=ZPK b (ZhL b s i) s.1.2.2.2.1 hg (smCb (by rw[h5.1];omega)) (by rw[h5.2];omega);have h7:=ZyZ b s i
  have hcs:(ZbM (busS b (ZZ b s i) i).1.1 (ZeX b (ZZ b s i) i) (busS b (ZZ b s i) i).2,(busS b (ZZ b s i) i).1.2.1,(busS b (ZZ b s i) i).1.2.2.1,(busS b (ZZ b s i) i).1.2.2.2.1,ZbN (ZZ b s i),
   (busS b (ZZ b s i) i).1.2.2.2.2.2)=ZhL b s i:=rfl
  have ht:∀d:QT4,Zcb d=bif ZM d then ((IntKind.wrap .u16 (d.1+1),d.2.1,IntKind.wrap .i64 (d.2.2-1)),(d.1,d.2.1),true) else ((0,0,0),(0,0),false):=λd=>by unfold Zcb ZfL;simp only[RT.val];cases ZM d<;>rfl
  have h8:smC (ZgZ b (ZhL b s i) s.1.2.2.2.1).2.1=true:=smCb (by have:=(ZzE b (ZhL b s i) s.1.2.2.2.1).2.1;rw[h5.1] at this;omega);have h9:smC (busS b (ZZ b s i) i).1.2.1=true:=smCb (by rw[h3.2.1];show s.2.1.length<=_;omega);unfold Znx;simp only[hr,RT.val,h1.1,h1.2,h2.1,h2.2,h4,clkX,hcs,h6.1,h6.2,ht,R.sel_eq,Yh,Yb];unfold Z9 ZzV ZBI ZBH ZbB Zal pinS ZPe;dsimp only;cases !i.2.2.1&&(Zad s.1==3&&ZcW s.1.2.2.2.1.1)
  ·simp only[Yc,h9,hg,YY,Yh,Yb];cases (Zmt (busS b (ZZ b s i) i).1.1 (ZeX b (ZZ b s i) i) (busS b (ZZ b s i) i).2).2.2.2.2.2.2.2.2.2.2.2.2.2.2.2.1
   ·cases i.2.2.1<;>rfl
   ·have e:ZM ((busS b (ZZ b s i) i).1.2.2.2.1.1,(busS b (ZZ b s i) i).1.2.2.2.1.2.1,(busS b (ZZ b s i) i).1.2.2.2.1.2.2)=ZM (ZhL b s i).2.2.2.1:=rfl;rw[e];cases ZM (ZhL b s i).2.2.2.1<;>cases i.2.2.1<;>rfl
  ·simp only[Yb,h8,hg,YY,Yh];cases (Zmt (busS b (ZZ b s i) i).1.1 (ZeX b (ZZ b s i) i) (busS b (ZZ b s i) i).2).2.2.2.2.2.2.2.2.2.2.2.2.2.2.2.1
   ·cases i.2.2.1<;>rfl
   ·cases ZM (ZgZ b (ZhL b s i) s.1.2.2.2.1).2.2.2.1<;>cases i.2.2.1<;>rfl
 exact⟨by simp only[Zny,hv];rfl,by simp only[Zzg,hv,getO]⟩
def Zj3 {α:Type} (l:List α) (f:α->α):List α:=match l.getLast? with
 |some y=>l.dropLast++[f y]
 |none=>[]
variable {α:Type}
theorem Zlo (l:List α) (y:α) (f:α->α):Zj3 (l++[y]) f=l++[f y]:=by simp[Zj3]
def ZWp (Zae:TC) (l:List TC):TC:=l.getLastD Zae
theorem Zy0 (l:List α) (y:α) (h:l.length<=1000000):IntKind.wrap .i64 (iN (l++[y]).length-1)=(l.length:Int):=by simp only[iN,Yd,List.length_cons,List.length_nil];rw[wrap_i64 _ (by omega) (by omega)];omega
theorem ZLr {r:R} (l:List r.den) (y:r.den):R.get r (l++[y]) (l.length:Int)=y:=by simp[R.get]
theorem ZIG (l:List α) (y z:α):setI (l++[y]) (l.length:Int) z=l++[z]:=by simp[setI]
theorem ZIL (l:List α) (y:α):Zg (l.length:Int) (l++[y]).length=true:=Z0.2 ⟨by omega,by simp;omega⟩
def Zr3 (t:Int):Int:=bif t==8 then 2 else bif t==9 then 3 else bif t==10 then 4 else 1
def cycN (c:CORT) (t:Int) (x:TY):TY:=bif t==8 then (0,0,0,0) else bif t==9 then (0,c.1.2.1.2.2.2.2.2.2.2.2.2,0,0) else bif t==10 then (0,0,0,0) else x
def Z0s (c:CORT):Bool:=c.1.2.2.1
def sodC (c:CORT):Bool:=c.1.2.2.2.2.2.2.2.2.2.2.2.2
def Z3J (y:ITMT) (k:Int) (c:CORT):Bool:=y.1==k&&(y.2.2.2.2.1==Z0s c&&y.2.2.2.2.2==sodC c)
def Z7t (y:ITMT):ITMT:=(y.1,y.2.1,y.2.2.1,IntKind.wrap .i64 (y.2.2.2.1+1),y.2.2.2.2)
def ZO9 (l:List ITMT) (k:Int) (c:CORT) (n:ITMT):List ITMT:=match l.getLast? with
 |some y=>bif Z3J y k c then Zj3 l Z7t else l++[n]
 |none=>l++[n]
def ZHj (l:List ITMT) (c:CORT) (x:TY) (t:Int):List ITMT:=
 bif Zr3 t !=1 then ZO9 l (Zr3 t) c (Zr3 t,cycN c t x,0,1,Z0s c,sodC c)
 else bif t==1 then l++[(1,cycN c t x,0,1,Z0s c,sodC c)]
 else bif t==7 then Zj3 l (λy=>(y.1,cycN c t x,IntKind.wrap .i64 (y.2.2.1+1),y.2.2.2))
 else Zj3 l (λy=>(y.1,cycN c t x,y.2.2.1,IntKind.wrap .i64 (y.2.2.2.1+1),y.2.2.2.2))
def ZXL:TC:=(0,(0,0,0,0,0,0,0,(false,false,false,false,false,false,false),0,0),false,false,false,0,false,false,false,false,false,false,false)
def ZPA:LINT:=(false,false,false,false,false,false,false,false,false)
def rdS (c:CORT) (t d:Int):TY×List Int:=bif t !=3 then (c.2.2.2.1,c.2.2.1) else (ZgM c.1 c.2.2.2.1 d,c.2.2.1++[(ZgM c.1 c.2.2.2.1 d).2.2.1])
def finS (c:CORT) (l:LINT) (d:Int):TC×Bool:=
 bif l.2.2.1 then (ZXL,false) else
 bif !Zwc c.2.2.2.2.1 (rdS c c.2.2.2.2.1 d).1 then (ZXL,false) else
 bif (Zi (Zk c.1 l) c.2.1 (rdS c c.2.2.2.2.1 d).2).2 then (ZXL,false) else (finX (Zk c.1 l) c.2.1 (rdS c c.2.2.2.2.1 d).2 l,true)
def ZLI (c:CORT) (t d:Int):List Int:=bif t==3 then c.2.2.1++[(ZhP c t d).2.2.1] else c.2.2.1
def evE (ev:List EVTT) (c:CORT) (l:LINT) (d:Int) (cell:Cell) (moved:Bool):List EVTT:=
 let e1:=bif (finS c l d).2 then ev++[ZCI (Z3d c.2.1,c.2.1,ZLI c (Zad c) d,ZPA,false,false,false,false,0,0) (Zk c.1 l) l] else ev
 bif l.2.2.1 then (bif ZiS c then ev++[ZCI (6,c.2.1,c.2.2.1,ZPA,false,false,false,false,0,0) c.1 l] else ev)++[ZCI (4,0,[],ZPA,false,false,false,false,0,0) c.1 l]
 else bif moved then e1++[(5,0,[],ZPA,false,false,false,false,cell)] else e1
def evC (cp:List TC) (Zae:TC) (c:CORT) (after:CORT) (l:LINT) (d:Int) (moved:Bool):List TC:=
 let c1:=bif (finS c l d).2 then cp++[(finS c l d).1] else cp
 bif l.2.2.1 then (bif ZiS c then cp++[ZWp Zae cp] else cp)++[after.1]
 else bif moved then c1++[ZWp Zae cp] else c1
abbrev STT:=SYST×List PINT×List ITMT×List EVTT×List TC
def nowS (s:SYST) (i:INPT):Int:=bif i.2.2.1 then 10 else Zad s.1
def ZgH (b:BRDT) (Zae:TC) (st:STT) (i:INPT):STT:=
 let k:=Z9 b st.1 i
 (k.1,st.2.1++[k.2.1],ZHj st.2.2.1 st.1.1 (ZhP st.1.1 (nowS st.1 i) k.2.2.2.1) (nowS st.1 i),
  evE st.2.2.2.1 st.1.1 k.2.2.1 k.2.2.2.1 k.2.2.2.2.1 k.2.2.2.2.2,evC st.2.2.2.2 Zae st.1.1 k.1.1 k.2.2.1 k.2.2.2.1 k.2.2.2.2.2)
structure RunOk (b:BRDT) (st:STT) (n:Nat):Prop where
 g:smG b.2.1=true
 m:st.1.2.1.length<=100000+2*n
 o:st.1.2.2.2.2.2.length<=n
 k:st.1.1.2.2.1.length<=n
 t:st.2.1.length<=n
 it:st.2.2.1.length<=n
 ev:st.2.2.2.1.length<=2*n
 cp:st.2.2.2.2.length<=2*n
 ne:st.2.2.1=[]->Zad st.1.1=1
theorem ZYJ (c:CORT) (t d:Int) (h:c.2.2.1.length<=1000000):ZfU c t d=true/\ZiR c t d=rdS c t d:=by
 have hms:=mst;have h1:Nat.ble (List.length c.2.2.1) most=true:=ZaF (by omega);have h2:∀y:Int,Nat.ble (List.length (c.2.2.1++[y])) most=true:=λy=>ZaF (by simp;omega)
 have hv:(Zjw c t d).val=some (rdS c t d):=by unfold Zjw rdS ZgM;simp only[RT.val,h1,h2,List.nil_append,Yh,Yb];cases t !=3<;>rfl
 exact⟨by simp only[ZfU,hv];rfl,by simp only[ZiR,hv,getO]⟩
theorem Z3e (c:CORT) (l:LINT) (d:Int) (h:c.2.2.1.length<=1000000):ZhO c l d=true/\Zjc c l d=finS c l d:=by
 have h1:=ZYJ c c.2.2.2.2.1 d h;have hv:(ZfI c l d).val=some (finS c l d):=by
  unfold ZfI finS;simp only[RT.val,h1.1,h1.2,Yb];cases l.2.2.1
  ·cases Zwc c.2.2.2.2.1 (rdS c c.2.2.2.2.1 d).1
   ·rfl
   ·cases (Zi (Zk c.1 l) c.2.1 (rdS c c.2.2.2.2.1 d).2).2<;>rfl
  ·rfl
 exact⟨by simp only[ZhO,hv];rfl,by simp only[Zjc,hv,getO]⟩
theorem ZP4 (c:CORT) (t d:Int) (h:c.2.2.1.length<=1000000):Zue c t d=true/\ZH5 c t d=ZLI c t d:=by
 have hms:=mst;have h1:Nat.ble (List.length c.2.2.1) most=true:=ZaF (by omega);have h2:∀y:Int,Nat.ble (List.length (c.2.2.1++[y])) most=true:=λy=>ZaF (by simp;omega)
 have hv:(Znz c t d).val=some (ZLI c t d):=by unfold Znz ZLI;simp only[RT.val,h1,h2,List.nil_append,Yh,Yb]
 exact⟨by simp only[Zue,hv];rfl,by simp only[ZH5,hv,getO]⟩
theorem ZLh (Zae:TC) (l:List TC) (h:l.length<=1000000):
  (!decide (iN l.length>0)||Zg (IntKind.wrap .i64 (iN l.length-1)) l.length)=true/\R.sel Zu (decide (iN l.length>0)) (R.get Zu l (IntKind.wrap .i64 (iN l.length-1))) Zae=ZWp Zae l:=by
 rcases Yat l with rfl|⟨l',y,rfl⟩
 ·exact⟨rfl,by rw[R.sel_eq];rfl⟩
 ·simp only[Yau,Yd,List.length_singleton] at h|-;have w:=Zy0 l' y (by omega);have d:decide (iN (l'.length+1)>0)=true:=YJ (by simp only[iN];omega);simp only[Yd,List.length_singleton] at w;rw[w,d,R.sel_eq];have:=ZIL l' y;simp only[Yd,List.length_singleton] at this;rw[this];exact⟨rfl,by simp only[Yb,ZWp];rw[show R.get Zu (l'++[y]) (l'.length:Int)=y from ZLr (r:=Zu) l' y];simp⟩
theorem ZRy (b:BRDT) (l:List INPT) (i:Nat) (r0:RUNT) (s0:SYST) (Zae:TC) (st:STT) (n:Nat) (h:RunOk b st n) (hi:i<l.length) (hl:l.length<=100000) (hn:n<=200000):
  (Zf9 (l,(l.length:Int),(i:Int),b,r0,st.1,s0,Zae,st.2.1,st.2.2.1,st.2.2.2.1,st.2.2.2.2,())).val=
   some (Go1.cont (l,(l.length:Int),((i+1:Nat):Int),b,r0,(ZgH b Zae st (R.get Zb8 l (i:Int))).1,s0,Zae,(ZgH b Zae st (R.get Zb8 l (i:Int))).2.1,(ZgH b Zae st (R.get Zb8 l (i:Int))).2.2.1,
    (ZgH b Zae st (R.get Zb8 l (i:Int))).2.2.2.1,(ZgH b Zae st (R.get Zb8 l (i:Int))).2.2.2.2,())):=by
 have hms:=mst;obtain⟨s,tr,it,ev,cp⟩:=st;obtain⟨g,m,o,k,t,hit,hev,hcp,ne⟩:=h;simp only at g m o k t hit hev hcp ne;have d:decide ((i:Int)<(l.length:Int))=true:=YJ (by omega);have hin:Zg (i:Int) l.length=true:=Z0.2 ⟨by omega,by omega⟩;have w:IntKind.wrap .i64 ((i:Int)+1)=((i+1:Nat):Int):=by rw[wrap_i64 _ (by omega) (by omega)];omega
 obtain⟨q,hq⟩:∃q,R.get Zb8 l (i:Int)=q:=⟨_,rfl⟩;rw[hq];have hc:=Zzf b s q g (by omega) (by omega) (by omega);have hf:=Z3e s.1 (Z9 b s q).2.2.1 (Z9 b s q).2.2.2.1 (by omega);have hb:=ZP4 s.1 (Zad s.1) (Z9 b s q).2.2.2.1 (by omega);have hlc:=ZLh Zae cp (by omega);have htr:∀x:PINT,Nat.ble (tr++[x]).length most=true:=λx=>ZaF (by simp;omega)
 have he1:∀x:EVTT,Nat.ble (ev++[x]).length most=true:=λx=>ZaF (by simp;omega)
 have he2:∀(c:Bool) (x y:EVTT),Nat.ble ((bif c then ev++[x] else ev)++[y]).length most=true:=λc x y=>ZaF (by cases c<;>simp<;>omega)
 have hc1:∀x:TC,Nat.ble (cp++[x]).length most=true:=λx=>ZaF (by simp;omega)
 have hc2:∀(c:Bool) (x y:TC),Nat.ble ((bif c then cp++[x] else cp)++[y]).length most=true:=λc x y=>ZaF (by cases c<;>simp<;>omega)
 have hg:Nat.ble (List.length s.1.2.2.1) most=true:=ZaF (by omega);obtain⟨T,hT⟩:∃T,(bif q.2.2.1 then (10:Int) else Zad s.1)=T:=⟨_,rfl⟩;have hT':nowS s q=T:=hT;rcases Yat it with rfl|⟨it',y,rfl⟩
 ·have hTT:T=1\/T=10:=by
   rw[<-hT,ne rfl];cases q.2.2.1
   ·exact .inl rfl
   ·exact .inr rfl
  have w0:IntKind.wrap .i64 (iN ([]:List ITMT).length-1)= -1:=by decide
  have w1:decide ((-1:Int)>=0)=false:=by decide
  have w2:Zg (-1) ([]:List ITMT).length=false:=by decide
  have hi1:∀x:ITMT,Nat.ble [x].length most=true:=λx=>ZaF (by simp;omega)
  unfold Zf9;rcases hTT with rfl|rfl
  ·have e1:((1:Int)==1)=true:=rfl;have e8:((1:Int)==8)=false:=rfl;have e9:((1:Int)==9)=false:=rfl;have e10:((1:Int)==10)=false:=rfl;have e7:((1:Int)==7)=false:=rfl;have n1:((1:Int) !=1)=false:=rfl;simp only[RT.val,d,hin,w,hq,hT,hc.1,hc.2,hf.1,hf.2,hb.1,hb.2,hlc.1,hlc.2,htr,hi1,he1,he2,hc1,hc2,hg,w0,w1,w2,e1,e8,e9,e10,e7,n1,List.nil_append,ZbQ,ZaM,Yh,Yt,Yf,Yj,Yu,Ym,Yaa,YT,YP,Y3,Yb,Yc];unfold ZgH;rw[hT'];simp only[ZHj,Zr3,cycN,e1,e8,e9,e10,e7,n1,Yb,Yc,List.nil_append];rfl
  ·have e1:((10:Int)==1)=false:=rfl;have e8:((10:Int)==8)=false:=rfl;have e9:((10:Int)==9)=false:=rfl;have e10:((10:Int)==10)=true:=rfl;have e7:((10:Int)==7)=false:=rfl;have n1:((4:Int) !=1)=true:=rfl;simp only[RT.val,d,hin,w,hq,hT,hc.1,hc.2,hf.1,hf.2,hb.1,hb.2,hlc.1,hlc.2,htr,hi1,he1,he2,hc1,hc2,hg,w0,w1,w2,e1,e8,e9,e10,e7,n1,List.nil_append,ZbQ,ZaM,Yh,Yt,Yf,Yj,Yu,Ym,Yaa,YT,YP,Y3,Yb,Yc];unfold ZgH;rw[hT'];simp only[ZHj,Zr3,cycN,ZO9,List.getLast?_nil,e1,e8,e9,e10,e7,n1,Yb,Yc,List.nil_append];rfl
 ·simp only[Yau] at hit|-;have hlen:it'.length<=1000000:=by simp at hit;omega
  have w0:=Zy0 it' y hlen;have w1:decide ((it'.length:Int)>=0)=true:=YJ (by omega);have w2:=λz:ITMT=>ZIL it' z
  have w3:=λz:ITMT=>ZLr (r:=ZuT) it' z
  have w4:=λz:ITMT=>ZIG it' y z
  have w5:=λz z2:ITMT=>ZIG it' z z2
  have hi1:∀x:ITMT,Nat.ble (it'++[y]++[x]).length most=true:=λx=>ZaF (by simp at hit|-;omega)
  have hj:∀f:ITMT->ITMT,Zj3 (it'++[y]) f=it'++[f y]:=Zlo it' y;unfold Zf9;simp only[RT.val,d,hin,w,hq,hT,hc.1,hc.2,hf.1,hf.2,hb.1,hb.2,hlc.1,hlc.2,htr,hi1,he1,he2,hc1,hc2,hg,w0,w1,w2,w3,w4,w5,List.nil_append,ZbQ,ZaM,Yh,Yt,Yf,Yj,Yu,Ym,Yaa,YT,YP,Y3,Yb,Yc];unfold ZgH;rw[hT'];simp only[ZHj,Zr3,cycN,ZO9,List.getLast?_concat,hj,Z3J,Z7t];cases T==8<;>cases T==9<;>cases T==10<;>rfl
theorem ZPq (c:CORT) (l:LINT) (d:Int):(ZbM c l d).2.2.1.length<=c.2.2.1.length+1:=by
 have he:∀(c:TC) (s:Int) (g:List Int) (h:Bool) (l:LINT),(endX c s g h l).2.2.1.length<=g.length:=by
  intro c s g h l;unfold endX;cases (Zi c s g).2
  ·exact YA _
  ·exact Ye _
 unfold ZbM;dsimp only;cases l.2.2.1
 ·cases Zac c.2.2.2.2.1==1
  ·cases Zac c.2.2.2.2.1==2||Zac c.2.2.2.2.1==7
   ·cases Zac c.2.2.2.2.1==8
    ·cases Zac c.2.2.2.2.1==9
     ·cases Zac c.2.2.2.2.1==3
      ·cases decide (Zac c.2.2.2.2.1<c.2.2.2.1.2.2.2)&& !(Zac c.2.2.2.2.1==6)
       ·exact YS (he _ _ _ _ _) (YaN _)
       ·exact YaN _
      ·cases le3 (ZgM (Zk c.1 l) c.2.2.2.1 d).2.2.2
       ·simp only[Yb,Yc,Yd,List.length_singleton];omega
       ·exact YS (he _ _ _ _ _) (by simp)
     ·cases ZeJ (Zk c.1 l) l==0
      ·exact YA _
      ·exact YaN _
    ·exact YaN _
   ·cases l.1|| !Zb4 c.2.2.2.1.1<;>exact YaN _
  ·exact YaN _
 ·exact YA _
theorem ZPp (b:BRDT) (s:SYST) (i:INPT):(Z9 b s i).1.1=ZbM s.1 (ZeX b (ZZ b s i) i) (busS b (ZZ b s i) i).2:=by rw[(ZrG b s i).1];show ZbM (busS b (ZZ b s i) i).1.1 _ _=_;rw[(Zky b (ZZ b s i) i).1];rfl
theorem ZON (l:List α) (f:α->α):(Zj3 l f).length=l.length:=by
 rcases Yat l with rfl|⟨l',y,rfl⟩
 ·rfl
 ·rw[Yau,Zlo];simp
theorem ZWx (l:List ITMT) (k:Int) (c:CORT) (n:ITMT):(ZO9 l k c n).length<=l.length+1/\ZO9 l k c n≠[]:=by
 unfold ZO9;rcases Yat l with rfl|⟨l',y,rfl⟩
 ·exact⟨by simp,by simp⟩
 ·rw[Yau,List.getLast?_concat];dsimp only;cases Z3J y k c
  ·exact⟨by simp,by simp⟩
  ·simp only[Yb];rw[Zlo];exact⟨by simp,by simp⟩
theorem ZWz (l:List ITMT) (c:CORT) (x:TY) (t:Int) (h:l=[]->t=1\/t=10):(ZHj l c x t).length<=l.length+1/\ZHj l c x t≠[]:=by
 have hj:=ZWx l (Zr3 t) c (Zr3 t,cycN c t x,0,1,Z0s c,sodC c);have ho:∀f:ITMT->ITMT,l≠[]->(Zj3 l f).length<=l.length+1/\Zj3 l f≠[]:=λf hl=>by have:=ZON l f;refine⟨by omega,λe=>hl ?_⟩;rw[e] at this;exact YZ.1 this.symm
 unfold ZHj;cases hk:Zr3 t !=1
 ·cases h1:t==1
  ·have hl:l≠[]:=λe=>by
    rcases h e with rfl|rfl
    ·simp at h1
    ·simp[Zr3] at hk
   cases t==7
   ·exact ho _ hl
   ·exact ho _ hl
  ·exact⟨by simp,by simp⟩
 ·exact hj
theorem Z5t (s:SYST) (i:INPT) (h:Zad s.1=1):nowS s i=1\/nowS s i=10:=by
 unfold nowS;rw[h];cases i.2.2.1
 ·exact .inl rfl
 ·exact .inr rfl
theorem Z53 (ev:List EVTT) (c:CORT) (l:LINT) (d:Int) (cell:Cell) (moved:Bool):(evE ev c l d cell moved).length<=ev.length+2:=by
 unfold evE;dsimp only;cases l.2.2.1
 ·cases (finS c l d).2<;>cases moved<;>simp
 ·cases ZiS c<;>simp
theorem Z54 (cp:List TC) (Zae:TC) (c after:CORT) (l:LINT) (d:Int) (moved:Bool):(evC cp Zae c after l d moved).length<=cp.length+2:=by
 unfold evC;dsimp only;cases l.2.2.1
 ·cases (finS c l d).2<;>cases moved<;>simp
 ·cases ZiS c<;>simp
theorem ZYv (b:BRDT) (Zae:TC) (st:STT) (i:INPT) (n:Nat) (h:RunOk b st n):RunOk b (ZgH b Zae st i) (n+1):=by
 have hc:=ZrG b st.1 i;have hi:=ZWz st.2.2.1 st.1.1 (ZhP st.1.1 (nowS st.1 i) (Z9 b st.1 i).2.2.2.1) (nowS st.1 i) (λe=>Z5t st.1 i (h.ne e));refine⟨h.g,?_,?_,?_,?_,?_,?_,?_,?_⟩
 ·have:=h.m;show (Z9 b st.1 i).1.2.1.length<=_;omega
 ·have:=h.o;show (Z9 b st.1 i).1.2.2.2.2.2.length<=_;omega
 ·have:=h.k;show (Z9 b st.1 i).1.1.2.2.1.length<=_;rw[ZPp];have:=ZPq st.1.1 (ZeX b (ZZ b st.1 i) i) (busS b (ZZ b st.1 i) i).2;omega
 ·have:=h.t;show (st.2.1++[_]).length<=_;simp;omega
 ·have:=h.it;exact YS hi.1 (by omega)
 ·have:=h.ev;exact YS (Z53 _ _ _ _ _ _) (by omega)
 ·have:=h.cp;exact YS (Z54 _ _ _ _ _ _ _) (by omega)
 ·intro e;exact absurd e hi.2
def ZdM (b:BRDT) (Zae:TC) (st:STT) (l:List INPT):STT:=l.foldl (ZgH b Zae) st
theorem ZyB (b:BRDT) (Zae:TC):∀(l:List INPT) (st:STT) (n:Nat),RunOk b st n->RunOk b (ZdM b Zae st l) (n+l.length)
 |[],st,n,h=>h
 |i::l,st,n,h=>by have:=ZyB b Zae l (ZgH b Zae st i) (n+1) (ZYv b Zae st i n h);rw[show n+(i::l).length=n+1+l.length by simp;omega];exact this
theorem ZQ9 (l:List α) (d:α) (i:Nat) (h:i<l.length):l.take (i+1)=l.take i++[l.getD i d]:=by rw[YaO,Yq,Yk h];rfl
theorem ZYq (b:BRDT) (l:List INPT) (r0:RUNT) (s0:SYST) (Zae:TC) (st:STT) (h:RunOk b st 0) (hl:l.length<=70000):
  runF false Zf9 (λ_=>1000000000000) (l,(l.length:Int),0,b,r0,st.1,s0,Zae,st.2.1,st.2.2.1,st.2.2.2.1,st.2.2.2.2,())=
   some (false,(l,(l.length:Int),(l.length:Int),b,r0,(ZdM b Zae st l).1,s0,Zae,(ZdM b Zae st l).2.1,(ZdM b Zae st l).2.2.1,(ZdM b Zae st l).2.2.2.1,(ZdM b Zae st l).2.2.2.2,())):=by
 obtain⟨r,hr,h1⟩:=ZS (fl:=false) (t:=Zf9) (fuel:=λ_=>1000000000000)
  (λa=>∃i:Nat,i<=l.length/\a=(l,(l.length:Int),(i:Int),b,r0,(ZdM b Zae st (l.take i)).1,s0,Zae,(ZdM b Zae st (l.take i)).2.1,(ZdM b Zae st (l.take i)).2.2.1,(ZdM b Zae st (l.take i)).2.2.2.1,(ZdM b Zae st (l.take i)).2.2.2.2,()))
  (λa=>Int.toNat (a.2.1-a.2.2.1)) (λr=>r=(false,(l,(l.length:Int),(l.length:Int),b,r0,(ZdM b Zae st l).1,s0,Zae,(ZdM b Zae st l).2.1,(ZdM b Zae st l).2.2.1,(ZdM b Zae st l).2.2.2.1,(ZdM b Zae st l).2.2.2.2,())))
  (by
   rintro a ⟨i,hi,rfl⟩;by_cases hlt:i<l.length
   ·left;have hk:=ZyB b Zae (l.take i) st 0 h;have hv:=ZRy b l i r0 s0 Zae (ZdM b Zae st (l.take i)) _ hk hlt (by omega) (by simp;omega);refine⟨_,hv,⟨i+1,hlt,?_⟩,by simp only;omega⟩;have e:ZdM b Zae st (l.take (i+1))=ZgH b Zae (ZdM b Zae st (l.take i)) (R.get Zb8 l (i:Int)):=by rw[ZQ9 l Zb8.Df i hlt];simp only[ZdM,List.foldl_append,List.foldl_cons,List.foldl_nil];rfl
    rw[e]
   ·right;left;have e:i=l.length:=by omega
    subst e;have d:decide ((l.length:Int)<(l.length:Int))=false:=Yaj (by omega);rw[List.take_length]
    exact⟨_,by simp only[Zf9,RT.val,d,Yc],rfl⟩)
  (l,(l.length:Int),0,b,r0,st.1,s0,Zae,st.2.1,st.2.2.1,st.2.2.2.1,st.2.2.2.2,()) ⟨0,YA _,rfl⟩ (by simp only;omega)
 rw[h1] at hr;exact hr
def Zmv (b:BRDT):STT:=((wNew b).1,[],[],[],[])
def Zfj (b:BRDT):TC:=(wNew b).1.1.1
def ZLR:SYST:=((ZXL,0,[],(0,0,0,0),0,false),[],(0,false,false,false,false,0,0,false,false,false,false,false,0,0,0,0,0,0,0,false),(0,0,0),0,[])
theorem ZPH (b:BRDT) (hg:smG b.2.1=true) (hm:smC b.2.2.2.2.2.2=true):Zt4 b=true:=by
 unfold Zt4 Zt2;simp only[RT.val,hg,hm,Yh,Yb];cases b.1 !=1&&b.1 !=2
 ·cases Zdx b.2.1 !=0
  ·cases decide (b.2.2.1<0)||(decide (b.2.2.1>100)|| !vldB b.2.2.2.2.2.2)<;>rfl
  ·rfl
 ·rfl
def newS (b:BRDT):SYST:=((((newX b.1).1.1,(0,0,0,0,0,0,0,(false,false,false,false,false,false,false),0,0),false,false,false,(newX b.1).1.2.2.2.2.2.1,false,false,false,false,false,false,false),0,[],(1,0,0,4),1,false),
 normX b.2.2.2.2.2.2,(0,false,false,false,false,0,0,false,false,false,false,false,0,0,0,0,7,0,0,false),(0,0,0),0,[])
theorem ZPS (b:BRDT) (hg:smG b.2.1=true) (hm:b.2.2.2.2.2.2.length<=100000):ZXO b=true/\(wNew b).2=Zir b/\((wNew b).2=0->RunOk b (Zmv b) 0/\(wNew b).1.2.1=normX b.2.2.2.2.2.2):=by
 have hc:=smCb (l:=b.2.2.2.2.2.2) (by omega);have hv:(ZPT b).val=some (bif Zir b !=0 then (ZLR,Zir b) else ((newS b),0)):=by unfold ZPT;simp only[RT.val,ZPH b hg hc,hc,Yb];cases Zir b !=0<;>rfl
 refine⟨by simp only[ZXO,hv];rfl,?_,?_⟩
 ·simp only[wNew,hv,getO];cases hx:Zir b !=0
  ·simp at hx;exact hx.symm
  ·rfl
 ·intro h0;have hx:(Zir b !=0)=false:=by
   cases hx:Zir b !=0
   ·rfl
   ·simp only[wNew,hv,getO,hx,Yb] at h0;rw[h0] at hx;simp at hx
  have e:wNew b=((newS b),0):=by simp only[wNew,hv,getO,hx,Yc]
  have hn:=ZeQ b.2.2.2.2.2.2;unfold Zmv;rw[e];exact⟨⟨hg,by show (normX b.2.2.2.2.2.2).length<=_;omega,Ye _,Ye _,Ye _,Ye _,Ye _,Ye _,λ_=>rfl⟩,rfl⟩
def endS (Zae:TC) (st:STT):RUNT:=
 (st.2.1,st.2.2.1,bif ZiS st.1.1 then st.2.2.2.1++[(7,st.1.1.2.1,st.1.1.2.2.1,ZPA,false,false,false,false,0,0)] else st.2.2.2.1,bif ZiS st.1.1 then st.2.2.2.2++[ZWp Zae st.2.2.2.2] else st.2.2.2.2,st.1)
def ZYr (b:BRDT) (l:List INPT):RUNT×Int:=bif (wNew b).2 !=0 then (([],[],[],[],ZLR),(wNew b).2) else (endS (Zfj b) (ZdM b (Zfj b) (Zmv b) l),0)
theorem Z3a (b:BRDT) (l:List Int) (hg:smG b.2.1=true) (hm:b.2.2.2.2.2.2.length<=100000) (hl:l.length<=4000):ZPQ b l=true/\wRun b l=ZYr b (Zbm l):=by
 have hms:=mst;have hd:=Zsb l hl;have hn:=ZPS b hg hm;have hv:(ZPM b l).val=some (ZYr b (Zbm l)):=by
  unfold ZPM ZYr;cases hx:(wNew b).2 !=0
  ·have h0:(wNew b).2=0:=by simpa using hx
   have hi:=(hn.2.2 h0).1;have hf:=ZyB b (Zfj b) (Zbm l) (Zmv b) 0 hi;have hr:=ZYq b (Zbm l) ([],[],[],[],ZLR) ZLR (Zfj b) (Zmv b) hi (by omega);have hr':runF false Zf9 (λ_=>1000000000000) (Zbm l,iN (Zbm l).length,0,b,([],[],[],[],((0,(0,0,0,0,0,0,0,(false,false,false,false,false,false,false),0,0),false,false,false,0,false,false,false,false,false,false,false),0,[],(0,0,0,0),0,false),[],(0,false,false,false,false,0,0,false,false,false,false,false,0,0,0,0,0,0,0,false),(0,0,0),0,[]),(wNew b).1,(((0,(0,0,0,0,0,0,0,(false,false,false,false,false,false,false),0,0),false,false,false,0,false,false,false,false,false,false,false),0,[],(0,0,0,0),0,false),[],(0,false,false,false,false,0,0,false,false,false,false,false,0,0,0,0,0,0,0,false),(0,0,0),0,[]),(wNew b).1.1.1,[],[],[],[],())=some (false,(Zbm l,((Zbm l).length:Int),((Zbm l).length:Int),b,([],[],[],[],ZLR),(ZdM b (Zfj b) (Zmv b) (Zbm l)).1,ZLR,Zfj b,(ZdM b (Zfj b) (Zmv b) (Zbm l)).2.1,(ZdM b (Zfj b) (Zmv b) (Zbm l)).2.2.1,(ZdM b (Zfj b) (Zmv b) (Zbm l)).2.2.2.1,(ZdM b (Zfj b) (Zmv b) (Zbm l)).2.2.2.2,())):=hr;simp only[RT.val,hn.1,hd.1,hr',hx,okB,getO,Yb,Yc];obtain⟨st,hst⟩:∃st,ZdM b (Zfj b) (Zmv b) (Zbm l)=st:=⟨_,rfl⟩;rw[hst] at hf|-;have hk:=hf.k;have he:=hf.ev;have hc:=hf.cp;have hdl:=hd.2;have hlc:=ZLh (Zfj b) st.2.2.2.2 (by omega);have b1:Nat.ble (List.length st.1.1.2.2.1) most=true:=ZaF (by omega);have b2:∀x:EVTT,Nat.ble (List.length (st.2.2.2.1++[x])) most=true:=λx=>ZaF (by simp;omega)
   have b3:∀x:TC,Nat.ble (List.length (st.2.2.2.2++[x])) most=true:=λx=>ZaF (by simp;omega)
   simp only[hlc.1,hlc.2,b1,b2,b3,List.nil_append,Yh,Yf,Yj,Yb];unfold endS;cases ZiS st.1.1<;>rfl
  ·simp only[RT.val,hn.1,hx,Yb];rfl
 exact⟨by simp only[ZPQ,hv];rfl,by simp only[wRun,hv,getO]⟩
end
end Go.Proofs.YtpnjbfjomebppaaGreat
open Go.Proofs.Tryz (prog)
open Go Go.S3 Go.Proofs
namespace Go.Proofs.YtpnjbfjomebppaaGreat
noncomputable section
abbrev ZaR:R:=R.int u8
abbrev ZaS:Nat:=5
def ZCP:LS:={n:=64,Sl:=[(3,.tip 0),(7,.code (So (R.sl Zb8))),(8,.code (So Kc)),(9,.code (So Kc))],Bx:=[],Sg:=[⟨Ka,5,false⟩]}
def ZiF (a:List INPT×Int×Int×List Int×PUnit):RT (Option (Go1 (List INPT×Int×Int×List Int×PUnit))):=
 let x1:INPT:=R.get Zb8 a.1 a.2.2.1
 let x2:= !x1.1
 let x3:=Zgb x2 0
 let x4:= !x3
 let x5:=x1.2
 let x6:=x5.1
 let x7:=Zgb x6 1
 let x8:= !x7
 let x9:=x5.2
 let x10:=x9.1
 let x11:=Zgb x10 2
 let x12:= !x11
 let x13:=x9.2
 let x14:=x13.1
 let x15:=Zgb x14 3
 let x16:= !x15
 let p1:=x16::x12::x8::x4::[]
 let x17:=x13.2
 let x18:=x17.1
 let x19:=Zgb x18 4
 let x20:= !x19
 let p3:=x20::p1
 let x21:=x17.2
 let x22:=x21.1
 let x23:=Zgb x22 5
 let x24:= !x23
 let p5:=x24::p3
 let x25:=x21.2
 let x26:=x25.1
 let x27:=Zgb x26 6
 let p8:=(!x27)::p5
 let x28:=x25.2
 let x29:=x28.1
 let x30:=orR p8 (Zgb x29 7)
 let x31:= !x30
 let x32:=orR p5 x27
 let x33:= !x32
 let p2:=x33::x31::(decide (a.2.2.1>=65536))::(!Zg a.2.2.1 (Le a.1))::[]
 let x34:=orR p3 x23
 let x35:= !x34
 let p4:=x35::p2
 let x36:=orR p1 x19
 let x37:= !x36
 let p6:=x37::p4
 let x38:=x4||(x8||(x12||x15))
 let x39:= !x38
 let p7:=x39::p6
 let x40:=x4||(x8||x11)
 let x41:= !x40
 let p9:=x41::p7
 let x42:=x4||x7
 let x43:= !x42
 let p10:=x43::p9
 let p11:=x4::p10
 let x44:=orI u8 (orI u8 (orI u8 (orI u8 (orI u8 (orI u8 (orI u8 (wBit x2 0) (wBit x6 1)) (wBit x10 2)) (wBit x14 3)) (wBit x18 4)) (wBit x22 5)) (wBit x26 6)) (wBit x29 7)
 let x45:=x28.2
 let x46:=x45.1
 let x47:=x45.2
 let x48:List Int:=a.2.2.2.1++[x44,x46,x47,ZgE x44 x46 x47]
 .br (decide (a.2.2.1<a.2.1)) (.br (orR p11 (Nat.ble (Le x48) most)) (.br (orR p10 x3) (.br (orR p9 x42) (.br (orR p7 x40) (.br (orR p6 x38) (.br (orR p4 x36) (.br (orR p2 x34) (.br (!Zg a.2.2.1 (Le a.1)||(decide (a.2.2.1>=65536)||(x31||x32))) (.br (!Zg a.2.2.1 (Le a.1)||(decide (a.2.2.1>=65536)||x30)) (.br (Zg a.2.2.1 (Le a.1)) (.br (decide (a.2.2.1>=65536)) (Ls (Go1.brk (a.1,a.2.1,a.2.2.1,a.2.2.2.1,PUnit.unit))) (Ls (Go1.cont (a.1,a.2.1,i64.wrap (a.2.2.1+1),x48,PUnit.unit)))) Ln) Ln) Ln) Ln) Ln) Ln) Ln) Ln) Ln) Ln) (Ls (Go1.brk (a.1,a.2.1,a.2.2.1,a.2.2.2.1,PUnit.unit)))
def Znu:Ora:=Zbn false ZCP ZiF (λa=>1000000000000)
theorem Zt9:ZaU (envX prog [(116,ZP8),(117,ZiI)] [] 127 8) (.block 0 (.loop (Z7 Tryz.f56.body 0))) Znu:=
 loopP ⟨Zuf,ZfK,Tv⟩
def ZgT (l:List INPT):RT (Option (List Int)):=
 let x1:=runF false ZiF (λa=>1000000000000) (l,iN (Le l),0,[],())
 .br (okB x1) (Ls (getO (false,l,iN (Le l),0,[],()) x1).2.2.2.2.1) Ln
def ZbO (l:List INPT):List Int:=getO [] (ZgT l).val
def ZgU (l:List INPT):Bool:=okB (ZgT l).val
def Zy9:En:=frzE (newE ZaR ZaS Zy8 (λa=>some (ZgU a)) (λa=>ZbO a))
theorem Zza:Za prog 56 (newE ZaR ZaS Zy8 (λa=>some (ZgU a)) (λa=>ZbO a)):=
 Znc (P:=prog) (n:=127) (k:=8) (l:=[(116,ZP8),(117,ZiI)]) (ol:=[(0,Znu)]) ⟨Zuf,ZfK,Tv⟩ Tryz.func56 rfl (by kernel_rfl) Tryz.call56 ⟨Zt9,Tv⟩ (r:=ZaR) (T:=ZaS) (ts:=Zy8) (t:=λa=>ZgT a) (λa=>by kernel_rfl)
theorem ZCO:Za prog 56 Zy9:=ZCg Zza
def Zia (s:List Int×Int) (n:Int):RT (Option (List Int×List Int×Int)):=
 let x1:=decide (iN (Le (Stg.l (newG ZaR ZaS (ZbO (Zaj s n).1))))>0)
 let x2:=x1&&(Zd (Zaj s n).2 4).1==0
 let x3:= !x2
 let x4:List Int:=bif x1 then (Zd (Zaj s n).2 4).2.1 else (Zaj s n).2.1
 let x5:Int:=bif x1 then (Zd (Zaj s n).2 4).2.2 else (Zaj s n).2.2
 let x6:List Int×Int:=(x4,x5)
 let x7:=Zj x6 (iN (Le (Stg.l (newG ZaR ZaS (ZbO (Zaj s n).1)))))
 let x8:= !x7
 let x9:=Zd x6 (iN (Le (Stg.l (newG ZaR ZaS (ZbO (Zaj s n).1)))))
 let x10:=x9.1
 let x11:=Zg x10 (Le (Stg.l (newG ZaR ZaS (ZbO (Zaj s n).1))))
 let x12:= !x11
 let x13:=x9.2
 let x14:=Zj x13 8
 let x15:= !x14
 let p1:=x15::x12::x8::x3::[]
 let x16:=Zd x13 8
 let x17:=x16.1
 let x18:=decide (0<=x17)
 let p2:=(!x18)::p1
 let x19:=x16.2
 .br (!Zj8 s n||ZgU (Zaj s n).1) (.br (Zj8 s n) (.br (!x1||Zj (Zaj s n).2 4) (.br (orR p2 x11) (.br (orR p1 x18) (.br (x3||(x8||(x12||x14))) (.br (x3||(x8||x11)) (.br (x3||x7) (Ls ((bif x2 then setI (Stg.l (newG ZaR ZaS (ZbO (Zaj s n).1))) x10 (xorI u8 (R.get (Stg.r (newG ZaR ZaS (ZbO (Zaj s n).1))) (Stg.l (newG ZaR ZaS (ZbO (Zaj s n).1))) x10) (shlI u8 1 x17)) else Stg.l (newG ZaR ZaS (ZbO (Zaj s n).1)),bif x2 then x19.1 else x4,bif x2 then x19.2 else x5))) Ln) Ln) Ln) Ln) Ln) Ln) Ln) Ln
def Zhw (s:List Int×Int) (n:Int):List Int×List Int×Int:=getO (Znt.Df,ZG2.Df) (Zia s n).val
def Znd (s:List Int×Int) (n:Int):Bool:=okB (Zia s n).val
def ZKV:En:=boxE ZG2 ZA3 Znt (λa=>some (Znd a.1 a.2)) (λa=>Zhw a.1 a.2)
theorem ZOS:Za prog 67 ZKV:=
 ZcB (P:=prog) (n:=63) (k:=8) (l:=[(56,Zy9),(68,Zc3),(125,ZKW)]) (ol:=[]) ⟨ZCO,Za5,ZOV,Tv⟩ Tryz.func67 rfl (by kernel_rfl) Tryz.call67 trivial (rb:=ZG2) (ts:=ZA3) (rs:=Znt) (t:=λa=>Zia a.1 a.2) (λa=>by kernel_rfl)
theorem ZW1:ZiF=Zdv:=by funext a;rfl
theorem ZXS (l:List INPT) (hl:l.length<=1000):ZgU l=true/\ZbO l=ZiG l/\(ZbO l).length=4*l.length:=by
 have h:=ZLX l hl;have e:ZgT l=Zga l:=by unfold ZgT Zga;rw[ZW1]
 have e2:ZbO l=ZiG l:=by unfold ZbO ZiG;rw[e];rfl
 refine⟨by unfold ZgU;rw[e];exact h.1,e2,by rw[e2];exact h.2⟩
theorem ZOT {s:List Int×Int} {k:Int} (h:NB s k) (hk:k<=50000) (n:Nat) (hn:n<=250):
  Znd s (n:Int)=true/\NB (Zhw s (n:Int)).2 (k+10+30*n)/\(Zhw s (n:Int)).1.length<=4*n/\∃m:Nat,(Zhw s (n:Int)).1.length=4*m:=by
 have hms:=mst;obtain⟨c1,b1,l1⟩:=ZOW h (by omega) n hn;obtain⟨c2,e2,l2⟩:=ZXS (Zaj s (n:Int)).1 (by omega);have hg:∀l:List Int,Stg.l (newG ZaR ZaS l)=l:=λ_=>rfl
 have hr:∀l:List Int,Stg.r (newG ZaR ZaS l)=R.int .u8:=λ_=>rfl
 obtain⟨L,hL⟩:∃L,L=ZbO (Zaj s (n:Int)).1:=⟨_,rfl⟩;rw[<-hL] at l2;obtain⟨c3,b3,_⟩:=Zp b1 (by omega) 4 (by decide) (by decide);have b4:NB (bif decide (iN L.length>0) then (Zd (Zaj s (n:Int)).2 4).2.1 else (Zaj s (n:Int)).2.1,bif decide (iN L.length>0) then (Zd (Zaj s (n:Int)).2 4).2.2 else (Zaj s (n:Int)).2.2) (k+3+30*n):=by
  cases decide (iN L.length>0)
  ·exact b1.up (by omega)
  ·exact b3.up (by omega)
 obtain⟨s4,hs4⟩:∃s4:List Int×Int,s4=(bif decide (iN L.length>0) then (Zd (Zaj s (n:Int)).2 4).2.1 else (Zaj s (n:Int)).2.1,bif decide (iN L.length>0) then (Zd (Zaj s (n:Int)).2 4).2.2 else (Zaj s (n:Int)).2.2):=⟨_,rfl⟩;rw[<-hs4] at b4;have hv:∃l s',(Zia s (n:Int)).val=some (l,s')/\NB s' (k+10+30*n)/\l.length=L.length:=by
  by_cases hz:0<L.length
  ·have d:decide (iN L.length>0)=true:=YJ (by simp only[iN];omega);obtain⟨c5,b5,d0,d1⟩:=Zp b4 (by omega) (iN L.length) (by simp only[iN];omega) (by simp only[iN];omega);obtain⟨c6,b6,f0,f1⟩:=Zp b5 (by omega) 8 (by decide) (by decide);have r5:Zg (Zd s4 (iN L.length)).1 L.length=true:=Z0.2 ⟨d0,by simpa [iN] using d1⟩;have e6:decide (0<=(Zd (Zd s4 (iN L.length)).2 8).1)=true:=YJ f0;rw[d] at hs4;simp only[Yb] at hs4;unfold Zia;simp only[RT.val,hg,hr,<-hL,c1,c2,d,c3,<-hs4,c5,r5,c6,e6,ZbQ,ZaM,YP,Yf,Yh,Yj,Yb];cases (Zd (Zaj s (n:Int)).2 4).1==0
   ·exact⟨_,_,rfl,b3.up (by omega),rfl⟩
   ·exact⟨_,_,rfl,b6.up (by omega),by simp only[Yb,setI,YaB]⟩
  ·have d:decide (iN L.length>0)=false:=Yaj (by simp only[iN];omega);rw[d] at hs4;simp only[Yc] at hs4;unfold Zia;simp only[RT.val,hg,hr,<-hL,c1,c2,d,ZbQ,ZaM,YT,Yf,Ym,Yt,Yh,Yj,Yb,Yc];exact⟨_,_,rfl,b1.up (by omega),rfl⟩
 obtain⟨l,s',hv,h1,h2⟩:=hv;simp only[Znd,Zhw,hv,okB,getO];exact⟨trivial,h1,by omega,(Zaj s (n:Int)).1.length,by omega⟩
def ZE6 (l:Int) (k:Int):RT (Int):=
 .Lf (andI i64 (i64.wrap (i64.wrap (andI i64 l 7-andI i64 k 7)+7)) 7)
def ZAK (l:Int) (k:Int):Int:=(ZE6 l k).val
def ZTr:En:=Zf ZQi Z2v (λ_=>none) (λa=>ZAK a.1 a.2)
theorem ZTq:Za prog 381 ZTr:=
 pureQ 31 [] [] ZQi Z2v trivial Tryz.func381 Tryz.call381 trivial (t:=λa=>ZE6 a.1 a.2)
def ZTu:LS:={n:=22,Sl:=[(0,.code (So Ka)),(1,.code (So Kc)),(4,.code (So Kc)),(5,.code (So Kc))],Bx:=[],Sg:=[]}
def ZdX (a:QT23):RT (Option (Go1 (QT23))):=
 let x1:=andI i64 (i64.wrap (andI i64 a.2.1 7+a.2.2.2.1)) 7
 .br (decide (a.2.2.2.1<=8)) (.br (decide (0<=x1)) (.br (andI u8 (shrI u8 a.1 x1) 1==1) (Ls (Go1.ret (a.1,a.2.1,x1,a.2.2.2.1,PUnit.unit))) (Ls (Go1.cont (a.1,a.2.1,a.2.2.1,i64.wrap (a.2.2.2.1+1),PUnit.unit)))) Ln) (Ls (Go1.brk (a.1,a.2.1,a.2.2.1,a.2.2.2.1,PUnit.unit)))
def ZAM:Ora:=Zbn true ZTu ZdX (λa=>9)
theorem ZE7:ZaU (envX prog [] [] 127 8) (.block 0 (.loop (Z7 Tryz.f346.body 0))) ZAM:=
 loopP trivial
def ZiV (s:Int) (k:Int):RT (Option (Int)):=
 let x1:=runF true ZdX (λa=>9) (s,k,0,1,())
 let x2:=getO (false,s,k,0,1,()) x1
 .br (okB x1) (.br x2.1 (Ls x2.2.2.2.1) (Ls (-1))) Ln
def ZjN (s:Int) (k:Int):Int:=getO Z2v.Df (ZiV s k).val
def ZiW (s:Int) (k:Int):Bool:=okB (ZiV s k).val
def ZE8:En:=Zf Z6m Z2v (λa=>some (ZiW a.1 a.2)) (λa=>ZjN a.1 a.2)
theorem ZAL:Za prog 346 ZE8:=
 pureP 127 [] [(0,ZAM)] Z6m Z2v trivial Tryz.func346 Tryz.call346 ⟨ZE7,Tv⟩ (t:=λa=>ZiV a.1 a.2)
def Zph (r:Int) (m:Int) (s:Int) (k:Int) (p:Bool):RT (Option (Int)):=
 .br (!ZiW (Z4 u8 r m) k||ZiW (bif p then Z4 u8 s m else s) k) (.br (ZiW (Z4 u8 r m) k) (.br (decide (ZjN (Z4 u8 r m) k<0)||decide (ZjN (bif p then Z4 u8 s m else s) k>=0)&&decide (ZAK (ZjN (Z4 u8 r m) k) k>=ZAK (ZjN (bif p then Z4 u8 s m else s) k) k)) (Ls (-1)) (Ls (ZjN (Z4 u8 r m) k))) Ln) Ln
def ZJW (r:Int) (m:Int) (s:Int) (k:Int) (p:Bool):Int:=getO Z2v.Df (Zph r m s k p).val
def Zws (r:Int) (m:Int) (s:Int) (k:Int) (p:Bool):Bool:=okB (Zph r m s k p).val
def ZTt:En:=Zf ZQm Z2v (λa=>some (Zws a.1 a.2.1 a.2.2.1 a.2.2.2.1 a.2.2.2.2)) (λa=>ZJW a.1 a.2.1 a.2.2.1 a.2.2.2.1 a.2.2.2.2)
theorem ZTs:Za prog 344 ZTt:=
 pureP 8191 [(346,ZE8),(381,ZTr)] [] ZQm Z2v ⟨ZAL,ZTq,Tv⟩ Tryz.func344 Tryz.call344 trivial (t:=λa=>Zph a.1 a.2.1 a.2.2.1 a.2.2.2.1 a.2.2.2.2)
def Z2k:RT PICT:=
 .Lf ((0,false,false,false,false,0,0,false,false,false,false,false,0,0,0,0,7,0,0,false))
def Zhr:PICT:=(Z2k).val
def ZJ3:En:=Zf ZAG Z1l (λ_=>none) (λa=>Zhr)
theorem ZJ2:Za prog 99 ZJ3:=
 pureQ 1 [] [] ZAG Z1l trivial Tryz.func99 Tryz.call99 trivial (t:=λa=>Z2k)
def ZTy (p:PICT):RT (Int):=
 .br p.2.1 (.Lf p.2.2.2.2.2.2.2.2.2.2.2.2.1) (.Lf p.2.2.2.2.2.2.2.2.2.2.2.2.2.1)
def ZNC (p:PICT):Int:=(ZTy p).val
def ZTA:En:=Zf Z1d ZVv (λ_=>none) (λa=>ZNC a)
theorem ZJ0:Za prog 273 ZTA:=
 pureQ 7 [] [] Z1d ZVv trivial Tryz.func273 Tryz.call273 trivial (t:=λa=>ZTy a)
def Zpp (p:PICT):RT (Option (Int)):=
 let x1:=p.2.2.2.2.2.2.2.2.2.2.2.2.2.2
 let x2:=x1.2
 let x3:=x2.1
 let x4:=x1.1
 let x5:=x2.2.1
 .br (Zws (ZNC p) x3 x4 x5 p.2.2.2.2.2.2.2.2.2.1) (Ls (ZJW (ZNC p) x3 x4 x5 p.2.2.2.2.2.2.2.2.2.1)) Ln
def Za9 (p:PICT):Int:=getO Z2v.Df (Zpp p).val
def Zle (p:PICT):Bool:=okB (Zpp p).val
def ZwB:En:=Zf Z1d Z2v (λa=>some (Zle a)) (λa=>Za9 a)
theorem Zpo:Za prog 268 ZwB:=
 pureP 7 [(273,ZTA),(344,ZTt)] [] Z1d Z2v ⟨ZJ0,ZTs,Tv⟩ Tryz.func268 Tryz.call268 trivial (t:=λa=>Zpp a)
def ZAO (p:PICT):RT (Option (Bool)):=
 .br (Zle p) (Ls (decide (Za9 p>=0))) Ln
def Z4w (p:PICT):Bool:=getO ZpN.Df (ZAO p).val
def ZTF (p:PICT):Bool:=okB (ZAO p).val
def Z64:En:=Zf Z1d ZpN (λa=>some (ZTF a)) (λa=>Z4w a)
theorem ZZg:Za prog 199 Z64:=
 pureP 7 [(268,ZwB)] [] Z1d ZpN ⟨Zpo,Tv⟩ Tryz.func199 Tryz.call199 trivial (t:=λa=>ZAO a)
def Zwz (p:PICT) (l:Int):RT PICT:=
 let x1:=p.2.2.2.2.2.2.2.2.2.2.2.2.2
 .Lf ((p.1,p.2.1,p.2.2.1,p.2.2.2.1,p.2.2.2.2.1,p.2.2.2.2.2.1,p.2.2.2.2.2.2.1,p.2.2.2.2.2.2.2.1,p.2.2.2.2.2.2.2.2.1,p.2.2.2.2.2.2.2.2.2.1,p.2.2.2.2.2.2.2.2.2.2.1,p.2.2.2.2.2.2.2.2.2.2.2.1,l,andI u8 (orI u8 x1.1 (Z4 u8 l p.2.2.2.2.2.2.2.2.2.2.2.2.1)) l,x1.2))
def ZFc (p:PICT) (l:Int):PICT:=(Zwz p l).val
def ZZf:En:=Zf ZIe Z1l (λ_=>none) (λa=>ZFc a.1 a.2)
theorem ZND:Za prog 198 ZZf:=
 pureQ 31 [] [] ZIe Z1l trivial Tryz.func198 Tryz.call198 trivial (t:=λa=>Zwz a.1 a.2)
def Zww (p:PICT) (x:Int):RT (Option PICT):=
 let x1:=p.2.2.2.2.2.2.2.2.2.2.2.2.2
 let x2:=x1.2
 .br (decide (0<=x)) (.br (decide (0<=x)) (Ls ((p.1,p.2.1,p.2.2.1,p.2.2.2.1,p.2.2.2.2.1,p.2.2.2.2.2.1,p.2.2.2.2.2.2.1,p.2.2.2.2.2.2.2.1,p.2.2.2.2.2.2.2.2.1,p.2.2.2.2.2.2.2.2.2.1,p.2.2.2.2.2.2.2.2.2.2.1,p.2.2.2.2.2.2.2.2.2.2.2.1,p.2.2.2.2.2.2.2.2.2.2.2.2.1,Z4 u8 x1.1 (shlI u8 1 x),orI u8 x2.1 (shlI u8 1 x),x2.2))) Ln) Ln
def Ztj (p:PICT) (x:Int):PICT:=getO Z1l.Df (Zww p x).val
def Zld (p:PICT) (x:Int):Bool:=okB (Zww p x).val
def ZFa:En:=Zf ZQb Z1l (λa=>some (Zld a.1 a.2)) (λa=>Ztj a.1 a.2)
theorem ZAN:Za prog 271 ZFa:=
 pureP 31 [] [] ZQb Z1l trivial Tryz.func271 Tryz.call271 trivial (t:=λa=>Zww a.1 a.2)
def ZJ5 (p:PICT) (x:Int):RT (Option PICT):=
 let x1:=p.2.2.2.2.2.2.2.2.2.2.2.2.2
 let x2:=x1.2
 let x3:=x2.2
 let x4:=x3.2
 .br (decide (0<=x)) (Ls ((p.1,p.2.1,p.2.2.1,p.2.2.2.1,p.2.2.2.2.1,p.2.2.2.2.2.1,p.2.2.2.2.2.2.1,p.2.2.2.2.2.2.2.1,p.2.2.2.2.2.2.2.2.1,p.2.2.2.2.2.2.2.2.2.1,p.2.2.2.2.2.2.2.2.2.2.1,p.2.2.2.2.2.2.2.2.2.2.2.1,p.2.2.2.2.2.2.2.2.2.2.2.2.1,x1.1,Z4 u8 x2.1 (shlI u8 1 x),x3.1,bif p.2.2.2.2.2.2.2.2.1 then x else x4.1,x4.2))) Ln
def ZNE (p:PICT) (x:Int):PICT:=getO Z1l.Df (ZJ5 p x).val
def Ztl (p:PICT) (x:Int):Bool:=okB (ZJ5 p x).val
def ZTH:En:=Zf ZQb Z1l (λa=>some (Ztl a.1 a.2)) (λa=>ZNE a.1 a.2)
theorem ZJ4:Za prog 272 ZTH:=
 pureP 31 [] [] ZQb Z1l trivial Tryz.func272 Tryz.call272 trivial (t:=λa=>ZJ5 a.1 a.2)
def ZFe (p:PICT) (v:Int):RT PICT:=
 let x1:=p.2.2.2.2.2.2.2.2.2.2.2.2.2
 let x2:=x1.2
 let x3:=x2.2
 let x4:=x3.1
 .Lf ((bif p.1==2 then bif p.2.2.2.1 then bif p.2.2.2.2.1 then 4 else 0 else 3 else bif p.1==3 then bif p.2.2.2.2.1 then 4 else 0 else bif p.1==4 then 0 else p.1,p.2.1,p.2.2.1,p.2.2.2.1,p.2.2.2.2.1,p.2.2.2.2.2.1,bif p.1==2 then v else p.2.2.2.2.2.2.1,bif p.1==2 then p.2.2.2.2.2.2.2.1 else bif p.1==3 then p.2.2.2.2.2.2.2.1 else bif p.1==4 then andI u8 v 2 !=0 else p.2.2.2.2.2.2.2.1,p.2.2.2.2.2.2.2.2.1,p.2.2.2.2.2.2.2.2.2.1,p.2.2.2.2.2.2.2.2.2.2.1,p.2.2.2.2.2.2.2.2.2.2.2.1,p.2.2.2.2.2.2.2.2.2.2.2.2.1,x1.1,x2.1,bif p.1==2 then x4 else bif p.1==3 then x4 else bif p.1==4 then x4 else v,x3.2))
def ZJ8 (p:PICT) (v:Int):PICT:=(ZFe p v).val
def ZTJ:En:=Zf ZIe Z1l (λ_=>none) (λa=>ZJ8 a.1 a.2)
theorem ZTI:Za prog 274 ZTJ:=
 pureQ 35655743 [] [] ZIe Z1l trivial Tryz.func274 Tryz.call274 trivial (t:=λa=>ZFe a.1 a.2)
def ZAQ (p:PICT) (v:Int):RT (Option PICT):=
 let x1:=p.2.2.2.2.2.2.2.2.2.2.2.2.2
 let x2:=x1.2
 let x3:=x2.1
 let x4:=x2.2
 let x5:=x4.1
 let x6:Int:=bif p.2.2.2.2.2.2.2.2.2.1 then Z4 u8 x3 x5 else x3
 let x7:=x4.2
 let x8:=x7.1
 let x9:=bif shrI u8 v 5==1 then shrI u8 v 5==1 else shrI u8 v 5==5
 let x10:=ZjN x6 x8
 let x11:=decide (x10<0)
 let p1:=x11::(!x9)::(shrI u8 v 5==4)::(shrI u8 v 5==0)::[]
 let x12:= !shrI u8 v 5==3||decide (0<=i64.wrap (andI u8 v 7))
 let p2:=(!shrI u8 v 5==7)::(shrI u8 v 5==3)::(!x12)::x9::(shrI u8 v 5==4)::(shrI u8 v 5==0)::[]
 let x13:=Z4 u8 x3 (shlI u8 1 (i64.wrap (andI u8 v 7)))
 .br (ZiW x6 x8) (.br (orR p1 (decide (0<=x10))) (.br (orR p2 (decide (0<=i64.wrap (andI u8 v 7)))) (.br (shrI u8 v 5==0||(shrI u8 v 5==4||(x9||x12))) (Ls ((p.1,p.2.1,p.2.2.1,p.2.2.2.1,p.2.2.2.2.1,p.2.2.2.2.2.1,p.2.2.2.2.2.2.1,p.2.2.2.2.2.2.2.1,!shrI u8 v 5==0&&(shrI u8 v 5==4||p.2.2.2.2.2.2.2.2.1),p.2.2.2.2.2.2.2.2.2.1,p.2.2.2.2.2.2.2.2.2.2.1,p.2.2.2.2.2.2.2.2.2.2.2.1,p.2.2.2.2.2.2.2.2.2.2.2.2.1,x1.1,bif shrI u8 v 5==0 then x3 else bif shrI u8 v 5==4 then x3 else bif x9 then bif x11 then x3 else Z4 u8 x3 (shlI u8 1 x10) else bif shrI u8 v 5==3 then x13 else bif shrI u8 v 5==7 then x13 else x3,x5,bif shrI u8 v 5==0 then x8 else bif shrI u8 v 5==4 then x8 else bif x9 then bif x11 then x8 else bif shrI u8 v 5==5 then x10 else x8 else bif shrI u8 v 5==3 then x8 else bif shrI u8 v 5==7 then i64.wrap (andI u8 v 7) else bif shrI u8 v 5==6 then i64.wrap (andI u8 v 7) else x8,x7.2))) Ln) Ln) Ln) Ln
def ZZi (p:PICT) (v:Int):PICT:=getO Z1l.Df (ZAQ p v).val
def ZJ9 (p:PICT) (v:Int):Bool:=okB (ZAQ p v).val
def Z2l:En:=Zf ZIe Z1l (λa=>some (ZJ9 a.1 a.2)) (λa=>ZZi a.1 a.2)
theorem ZZh:Za prog 275 Z2l:=
 pureP 36929657684375896319 [(346,ZE8)] [] ZIe Z1l ⟨ZAL,Tv⟩ Tryz.func275 Tryz.call275 trivial (t:=λa=>ZAQ a.1 a.2)
def ZjO (p:PICT) (h:Bool) (v:Int):RT (Option PICT):=
 .br (h||(andI u8 v 16 !=0||(!andI u8 v 8==0||ZJ9 p v))) (.br (h) (Ls (ZJ8 p v)) (.br (andI u8 v 16 !=0) (Ls ((2,andI u8 v 8 !=0,andI u8 v 4 !=0,andI u8 v 2 !=0,andI u8 v 1 !=0,andI u8 v 224,0,false,false,false,false,false,p.2.2.2.2.2.2.2.2.2.2.2.2.1,0,0,0,7,0,0,false))) (.br (andI u8 v 8==0) (Ls (ZZi p v)) (Ls ((p.1,p.2.1,p.2.2.1,p.2.2.2.1,p.2.2.2.2.1,p.2.2.2.2.2.1,p.2.2.2.2.2.2.1,p.2.2.2.2.2.2.2.1,p.2.2.2.2.2.2.2.2.1,bif andI u8 v 64 !=0 then andI u8 v 32 !=0 else p.2.2.2.2.2.2.2.2.2.1,bif andI u8 v 2 !=0 then andI u8 v 1 !=0 else p.2.2.2.2.2.2.2.2.2.2.1,andI u8 v 4 !=0||p.2.2.2.2.2.2.2.2.2.2.2.1,p.2.2.2.2.2.2.2.2.2.2.2.2)))))) Ln
def ZE9 (p:PICT) (h:Bool) (v:Int):PICT:=getO Z1l.Df (ZjO p h v).val
def Zwv (p:PICT) (h:Bool) (v:Int):Bool:=okB (ZjO p h v).val
def ZZe:En:=Zf ZH6 Z1l (λa=>some (Zwv a.1 a.2.1 a.2.2)) (λa=>ZE9 a.1 a.2.1 a.2.2)
theorem ZNB:Za prog 207 ZZe:=
 pureP 4398046519807 [(99,ZJ3),(274,ZTJ),(275,Z2l)] [] ZH6 Z1l ⟨ZJ2,ZTI,ZZh,Tv⟩ Tryz.func207 Tryz.call207 trivial (t:=λa=>ZjO a.1 a.2.1 a.2.2)
def Zpk (p:PICT) (h:Bool):RT (Option (PICT×Int)):=
 let x1:= !p.2.2.2.2.2.2.2.2.2.2.2.1
 let x2:PICT:=(p.1,p.2.1,p.2.2.1,p.2.2.2.1,p.2.2.2.2.1,p.2.2.2.2.2.1,p.2.2.2.2.2.2.1,p.2.2.2.2.2.2.2.1,p.2.2.2.2.2.2.2.2.1,p.2.2.2.2.2.2.2.2.2.1,p.2.2.2.2.2.2.2.2.2.2.1,false,p.2.2.2.2.2.2.2.2.2.2.2.2)
 let x3:=h||(x1||Zle x2)
 let x4:= !x3
 let x5:=Za9 x2
 let x6:=decide (x5<0)
 let p1:=x6::x1::h::x4::[]
 let x7:=Zld x2 x5
 let x8:=Ztj x2 x5
 let x9:=x8.2
 let x10:=x9.2
 let x11:=x10.2
 let x12:=x11.2
 let x13:=x12.2
 let x14:=x13.2
 let x15:=x14.2
 let x16:=x15.1
 let p2:=(!x16)::(!x7)::p1
 let x17:=p.2.2.2.2.2.2.2.2.2.2.2.2.2.2
 let x18:=ZNE x8 x5
 .br (orR p2 (Ztl x8 x5)) (.br (orR p1 x7) (.br (x3) (.br (h) (Ls ((p,x17.2.1))) (.br p.2.2.2.2.2.2.2.2.2.2.2.1 (.br (x6) (Ls ((x2,0))) (Ls (((R.sel ZY x16 x18 x8),u8.wrap (128+u8.wrap x5))))) (.br p.2.2.2.2.2.2.2.2.2.2.1 (Ls ((p,x17.1))) (Ls ((p,ZNC p)))))) Ln) Ln) Ln
def ZTC (p:PICT) (h:Bool):PICT×Int:=getO ZCU.Df (Zpk p h).val
def ZFb (p:PICT) (h:Bool):Bool:=okB (Zpk p h).val
def Z4v:En:=Zf ZQe ZCU (λa=>some (ZFb a.1 a.2)) (λa=>ZTC a.1 a.2)
theorem ZTB:Za prog 205 Z4v:=
 pureP 8589938943 [(268,ZwB),(271,ZFa),(272,ZTH),(273,ZTA)] [] ZQe ZCU ⟨Zpo,ZAN,ZJ4,ZJ0,Tv⟩ Tryz.func205 Tryz.call205 trivial (t:=λa=>Zpk a.1 a.2)
def ZAR (p:PICT):RT (Option (PICT×Int)):=
 let x1:=p.2.2.2.2.2.2.2.2.2.2.2.2.2
 let x2:=x1.2
 let x3:=x2.2
 let x4:=x3.2
 let x5:=x4.2
 let x6:=x5.1
 let x7:=x6==0
 let x8:= !x7
 let x9:=x8||Zle p
 let x10:=p.2.2.2.2.2.2.2.2.2.2.2.2.1
 let x11:=x1.1
 let x12:=x2.1
 let x13:=x3.1
 let x14:=x4.1
 let x15:=x5.2
 let x16:=x15.1
 let x17:PICT:=(p.1,p.2.1,p.2.2.1,p.2.2.2.1,p.2.2.2.2.1,p.2.2.2.2.2.1,p.2.2.2.2.2.2.1,p.2.2.2.2.2.2.2.1,p.2.2.2.2.2.2.2.2.1,p.2.2.2.2.2.2.2.2.2.1,p.2.2.2.2.2.2.2.2.2.2.1,p.2.2.2.2.2.2.2.2.2.2.2.1,x10,x11,x12,x13,x14,x6,x16,decide (Za9 p<0))
 let x18:=Ztj x17 (Za9 p)
 let x19:=x18.2
 let x20:=x19.2
 let x21:=x20.2
 let x22:=x21.2
 let x23:=x22.2
 let x24:=x23.2
 let x25:=x24.2
 let x26:=x25.2
 let x27:=x26.2
 let x28:=x27.2
 let x29:=x28.2
 let x30:=x29.2
 let x31:=x30.2
 let x32:=x31.2
 let x33:=x32.2
 let x34:=x33.2
 let x35:PICT:=(p.1,p.2.1,p.2.2.1,p.2.2.2.1,p.2.2.2.2.1,p.2.2.2.2.2.1,p.2.2.2.2.2.2.1,p.2.2.2.2.2.2.2.1,p.2.2.2.2.2.2.2.2.1,p.2.2.2.2.2.2.2.2.2.1,p.2.2.2.2.2.2.2.2.2.2.1,p.2.2.2.2.2.2.2.2.2.2.2.1,x10,x11,x12,x13,x14,2,x15)
 let x36:=andI i64 x16 7
 let x37:=x15.2
 let x38:=p.2.2.2.2.2.2.2.1&& !x37
 let x39:PICT:=(p.1,p.2.1,p.2.2.1,p.2.2.2.1,p.2.2.2.2.1,p.2.2.2.2.2.1,p.2.2.2.2.2.2.1,p.2.2.2.2.2.2.2.1,p.2.2.2.2.2.2.2.2.1,p.2.2.2.2.2.2.2.2.2.1,p.2.2.2.2.2.2.2.2.2.2.1,p.2.2.2.2.2.2.2.2.2.2.2.1,x10,x11,x12,x13,x14,0,x15)
 let x40:=ZNE x39 x36
 let x41:=x40.2
 let x42:=x41.2
 let x43:=x42.2
 let x44:=x43.2
 let x45:=x44.2
 let x46:=x45.2
 let x47:Int:=bif x38 then x46.1 else p.2.2.2.2.2.2.1
 let x48:=x46.2
 let x49:=x48.2
 let x50:=x49.2
 let x51:=x50.2
 let x52:=x51.2
 let x53:=x52.2
 let x54:=x53.2
 let x55:=x54.2
 let x56:=x55.2
 let x57:=x56.2
 let x58:=x57.2
 let x59:=x58.2
 .br (!x9||(x8||(decide (Za9 p<0)||Zld x17 (Za9 p)))) (.br (x9) (.br (x7) (Ls (((bif decide (Za9 p<0) then p.1 else x18.1,bif decide (Za9 p<0) then p.2.1 else x19.1,bif decide (Za9 p<0) then p.2.2.1 else x20.1,bif decide (Za9 p<0) then p.2.2.2.1 else x21.1,bif decide (Za9 p<0) then p.2.2.2.2.1 else x22.1,bif decide (Za9 p<0) then p.2.2.2.2.2.1 else x23.1,bif decide (Za9 p<0) then p.2.2.2.2.2.2.1 else x24.1,bif decide (Za9 p<0) then p.2.2.2.2.2.2.2.1 else x25.1,bif decide (Za9 p<0) then p.2.2.2.2.2.2.2.2.1 else x26.1,bif decide (Za9 p<0) then p.2.2.2.2.2.2.2.2.2.1 else x27.1,bif decide (Za9 p<0) then p.2.2.2.2.2.2.2.2.2.2.1 else x28.1,bif decide (Za9 p<0) then p.2.2.2.2.2.2.2.2.2.2.2.1 else x29.1,bif decide (Za9 p<0) then x10 else x30.1,bif decide (Za9 p<0) then x11 else x31.1,bif decide (Za9 p<0) then x12 else x32.1,bif decide (Za9 p<0) then x13 else x33.1,bif decide (Za9 p<0) then x14 else x34.1,1,bif decide (Za9 p<0) then 7 else Za9 p,bif decide (Za9 p<0) then decide (Za9 p<0) else x34.2.2.2),205))) (.br (x6==1) (.br p.2.2.1 (Ls ((x35,u8.wrap (andI u8 p.2.2.2.2.2.1 224+u8.wrap (i64.wrap (4*x36)))))) (Ls ((x35,u8.wrap (andI u8 p.2.2.2.2.2.1 192+u8.wrap (i64.wrap (8*x36))))))) (.br (!x38||Ztl x39 x36) (Ls (((bif x38 then x40.1 else p.1,bif x38 then x41.1 else p.2.1,bif x38 then x42.1 else p.2.2.1,bif x38 then x43.1 else p.2.2.2.1,bif x38 then x44.1 else p.2.2.2.2.1,bif x38 then x45.1 else p.2.2.2.2.2.1,x47,bif x38 then x48.1 else p.2.2.2.2.2.2.2.1,bif x38 then x49.1 else p.2.2.2.2.2.2.2.2.1,bif x38 then x50.1 else p.2.2.2.2.2.2.2.2.2.1,bif x38 then x51.1 else p.2.2.2.2.2.2.2.2.2.2.1,bif x38 then x52.1 else p.2.2.2.2.2.2.2.2.2.2.2.1,bif x38 then x53.1 else x10,bif x38 then x54.1 else x11,bif x38 then x55.1 else x12,bif x38 then x56.1 else x13,bif x38 then x57.1 else x14,bif x38 then x58.1 else 0,bif x38 then x59.1 else x16,bif x38 then x59.2 else x37),x47))) Ln))) Ln) Ln
def Z4x (p:PICT):PICT×Int:=getO ZCU.Df (ZAR p).val
def ZTL (p:PICT):Bool:=okB (ZAR p).val
def Z65:En:=Zf Z1d ZCU (λa=>some (ZTL a)) (λa=>Z4x a)
theorem ZZj:Za prog 203 Z65:=
 pureP 134219839 [(268,ZwB),(271,ZFa),(272,ZTH)] [] Z1d ZCU ⟨Zpo,ZAN,ZJ4,Tv⟩ Tryz.func203 Tryz.call203 trivial (t:=λa=>ZAR a)
def ZXb (d:QT4):RT (Bool):=
 .Lf (decide (d.2.2>0))
def Z0Q (d:QT4):Bool:=(ZXb d).val
def Z2W:En:=Zf Zsi ZpN (λ_=>none) (λa=>Z0Q a)
theorem ZLD:Za prog 141 Z2W:=
 pureQ 7 [] [] Zsi ZpN trivial Tryz.func141 Tryz.call141 trivial (t:=λa=>ZXb a)
def ZHA (d:QT4) (r:Int):RT (Int):=
 .br (andI i64 r 3==0) (.Lf (u8.wrap d.1)) (.br (andI i64 r 3==1) (.Lf (u8.wrap (shrI u16 d.1 8))) (.br (andI i64 r 3==2) (.Lf d.2.1) (.Lf (u8.wrap d.2.2))))
def ZLE (d:QT4) (r:Int):Int:=(ZHA d r).val
def Z58:En:=Zf ZIb ZVv (λ_=>none) (λa=>ZLE a.1 a.2)
theorem ZXc:Za prog 206 Z58:=
 pureQ 266399 [] [] ZIb ZVv trivial Tryz.func206 Tryz.call206 trivial (t:=λa=>ZHA a.1 a.2)
def ZyH (d:QT4) (r:Int) (v:Int):RT (QT4):=
 .Lf ((bif andI i64 r 3==0 then orI u16 (andI u16 d.1 65280) (u16.wrap v) else bif andI i64 r 3==1 then orI u16 (andI u16 d.1 255) (shlI u16 (u16.wrap v) 8) else d.1,bif andI i64 r 3==0 then d.2.1 else bif andI i64 r 3==1 then d.2.1 else bif andI i64 r 3==2 then v else d.2.1,bif andI i64 r 3==0 then d.2.2 else bif andI i64 r 3==1 then d.2.2 else bif andI i64 r 3==2 then d.2.2 else bif andI i64 r 3==3 then i64.wrap v else d.2.2))
def ZHv (d:QT4) (r:Int) (v:Int):QT4:=(ZyH d r v).val
def Z0O:En:=Zf Zzl Zzm (λ_=>none) (λa=>ZHv a.1 a.2.1 a.2.2)
theorem ZPo:Za prog 208 Z0O:=
 pureQ 4563665535 [] [] Zzl Zzm trivial Tryz.func208 Tryz.call208 trivial (t:=λa=>ZyH a.1 a.2.1 a.2.2)
def ZXa (d:QT4):RT ((QT4)×(Int×Int)×Bool):=
 .br (!Z0Q d) (.Lf (((0,0,0),(0,0),false))) (.Lf (((u16.wrap (d.1+1),d.2.1,i64.wrap (d.2.2-1)),(d.1,d.2.1),true)))
def Z57 (d:QT4):(QT4)×(Int×Int)×Bool:=(ZXa d).val
def Z7O:En:=Zf Zsi ZnC (λ_=>none) (λa=>Z57 a)
theorem Z0P:Za prog 142 Z7O:=
 pureQ 63 [(141,Z2W)] [] Zsi ZnC ⟨ZLD,Tv⟩ Tryz.func142 Tryz.call142 trivial (t:=λa=>ZXa a)
def mapG {α β:Type} (φ:α->β):Go1 α->Go1 β
 | .cont a=>.cont (φ a)
 | .brk a=>.brk (φ a)
 | .ret a=>.ret (φ a)
theorem ZIH {α β:Type} (φ:α->β) {f:α->Option (Go1 α)} {g:β->Option (Go1 β)} (h:∀a,g (φ a)=(f a).map (mapG φ)):∀(n:Nat) (a:α),runL g n (φ a)=(runL f n a).map λr=>(r.1,φ r.2)
 |0,a=>rfl
 |n+1,a=>by
  unfold runL;rw[h a];cases hf:f a with
  |none=>rfl
  |some r=>cases r with
   |cont a'=>exact ZIH φ h n a'
   |brk a'=>rfl
   |ret a'=>rfl
theorem ZIJ {α β:Type} (φ:α->β) {f:α->RT (Option (Go1 α))} {g:β->RT (Option (Go1 β))} (h:∀a,(g (φ a)).val=((f a).val).map (mapG φ)) (fl:Bool) (n:Nat) (a:α):
  runF fl g (λ_=>n) (φ a)=(runF fl f (λ_=>n) a).map λr=>(r.1,φ r.2):=by
 unfold runF;rw[ZIH φ h n a];cases runL (λa=>(f a).val) n a with
 |none=>rfl
 |some r=>obtain⟨b,d⟩:=r;cases fl<;>cases b<;>rfl
theorem ZPf:(List.range 256).all (λs=>(List.range 8).all λk=>(ZiV (s:Int) (k:Int)).val==some (Zdy (s:Int) (k:Int))&&Zit (s:Int) (k:Int))=true:=by kernel_rfl
theorem ZCE (k:Int):andI .i64 (andI .i64 k 7) 7=andI .i64 k 7:=by
 obtain⟨h0,h1⟩:=and7 k;generalize andI .i64 k 7=v at*;have:v=0\/v=1\/v=2\/v=3\/v=4\/v=5\/v=6\/v=7:=by omega
 rcases this with rfl|rfl|rfl|rfl|rfl|rfl|rfl|rfl<;>decide
def phiK (a:QT23):QT23:=(a.1,andI .i64 a.2.1 7,a.2.2)
theorem ZZb (s k:Int):(ZiV s k).val=(ZiV s (andI .i64 k 7)).val:=by
 have h:=ZIJ phiK (f:=ZdX) (g:=ZdX) (by
  rintro⟨s,k,r,i,u⟩;simp only[ZdX,phiK,RT.val,ZCE]
  cases h3:(andI u8 (shrI u8 s (andI i64 (i64.wrap (andI i64 k 7+i)) 7)) 1==1)<;>by_cases h1:i<=8<;>by_cases h2:0<=andI i64 (i64.wrap (andI i64 k 7+i)) 7<;>simp[h1,h2,mapG,phiK]) true 9 (s,k,0,1,())
 have h':runF true ZdX (λ_=>9) (s,andI .i64 k 7,0,1,())=(runF true ZdX (λ_=>9) (s,k,0,1,())).map λr=>(r.1,phiK r.2):=h
 simp only[ZiV,RT.val,h'];cases runF true ZdX (λ_=>9) (s,k,0,1,()) with
 |none=>rfl
 |some r=>obtain⟨b,d⟩:=r;cases b<;>rfl
theorem Z3k (l k:Int):Zdn l (andI .i64 k 7)=Zdn l k:=by simp only[Zdn,ZIc,RT.val,ZCE]
theorem Z3q (s k:Int):(Zl0 s k).val=(Zl0 s (andI .i64 k 7)).val:=by
 have h:=ZIJ phiK (f:=Zc7) (g:=Zc7) (by
  rintro⟨s,k,r,i,u⟩;simp only[Zc7,phiK,RT.val,Z3k]
  cases h3:vOnC s i<;>by_cases h1:i<8<;>by_cases q1:r<0<;>by_cases q2:Zdn i k<Zdn r k<;>cases vOn s i<;>simp[h1,q1,q2,mapG,phiK]) false 9 (s,k,-1,0,())
 have h':runF false Zc7 (λ_=>9) (s,andI .i64 k 7,-1,0,())=(runF false Zc7 (λ_=>9) (s,k,-1,0,())).map λr=>(r.1,phiK r.2):=h
 simp only[Zl0,RT.val,h'];cases runF false Zc7 (λ_=>9) (s,k,-1,0,()) with
 |none=>rfl
 |some r=>rfl
theorem ZHn (s k:Int) (hs:inR .u8 s):ZiW s k=true/\Zit s k=true/\ZjN s k=Zdy s k:=by
 obtain⟨h0,h1⟩:=and7 k;rw[Zfv] at hs;obtain⟨a,rfl⟩:∃a:Nat,s=(a:Int):=⟨s.toNat,by omega⟩;obtain⟨b,hb⟩:∃b:Nat,andI .i64 k 7=(b:Int):=⟨(andI .i64 k 7).toNat,by omega⟩;have key:=YU.1 (YU.1 ZPf a (by simp;omega)) b (by simp;omega);simp only[Ya,Yav] at key;obtain⟨k1,k2⟩:=key;have e1:=ZZb (a:Int) k;have e2:=Z3q (a:Int) k;rw[hb] at e1 e2;rw[k1] at e1;have e3:Zdy (a:Int) k=Zdy (a:Int) (b:Int):=by simp only[Zdy,e2]
 have e4:Zit (a:Int) k=true:=by simp only[Zit,e2];exact k2
 refine⟨by simp only[ZiW,e1,okB],e4,?_⟩;simp only[ZjN,e1,getO,e3]
theorem Z3T (l k:Int):ZAK l k=Zdn l k:=by
 simp only[ZAK,ZE6,Zdn,ZIc,RT.val];obtain⟨a0,a1⟩:=and7 l;obtain⟨b0,b1⟩:=and7 k;generalize andI .i64 l 7=a at*;generalize andI .i64 k 7=b at*;obtain⟨x,rfl⟩:∃x:Nat,a=(x:Int):=⟨a.toNat,by omega⟩;obtain⟨y,rfl⟩:∃y:Nat,b=(y:Int):=⟨b.toNat,by omega⟩;have key:(List.range 8).all (λx=>(List.range 8).all λy=>andI i64 (i64.wrap (i64.wrap ((x:Int)-(y:Int))+7)) 7==andI i64 (i64.wrap (i64.wrap ((x:Int)-(y:Int))+15)) 7)=true:=by kernel_rfl
 have:=YU.1 (YU.1 key x (by simp;omega)) y (by simp;omega);simpa using this
theorem ZJY (r m s k:Int) (p:Bool) (hs:inR .u8 s):Zws r m s k p=true/\Zsm r m s k p=true/\ZJW r m s k p=ZCX r m s k p:=by
 obtain⟨a1,a2,a3⟩:=ZHn (Z4 u8 r m) k (Zax _ _);have hb:inR .u8 (ZcI m s p):=by
  cases p
  ·simpa [ZcI,ZkK,RT.val] using hs
  ·have:ZcI m s true=Z4 u8 s m:=by simp[ZcI,ZkK,RT.val]
   rw[this];exact Zax _ _
 have eb:(bif p then Z4 u8 s m else s)=ZcI m s p:=by cases p<;>simp[ZcI,ZkK,RT.val]
 obtain⟨b1,b2,b3⟩:=ZHn (ZcI m s p) k hb;have h1:(Zph r m s k p).val=(ZlZ r m s k p).val:=by
  simp only[Zph,ZlZ,RT.val,eb,a1,a2,b1,b2,a3,b3,Z3T,Yb,Yh];generalize Zdy (Z4 u8 r m) k=x;generalize Zdy (ZcI m s p) k=y;by_cases q1:x<0
  ·have:¬x>=0:=by omega
   simp[q1,this]
  ·have q1':x>=0:=by omega
   by_cases q2:y<0
   ·have:¬y>=0:=by omega
    simp[q1,q1',q2,this]
   ·have q2':y>=0:=by omega
    by_cases q3:Zdn x k<Zdn y k
    ·have:¬Zdn x k>=Zdn y k:=by omega
     simp[q1,q1',q2,q2',q3,this]
    ·have q3':Zdn x k>=Zdn y k:=by omega
     simp[q1,q1',q2,q2',q3,q3']
 have h2:Zsm r m s k p=true:=by simp only[Zsm,ZlZ,RT.val,a2,b2,Yb];cases (decide (Zdy (Z4 u8 r m) k>=0)&&(decide (Zdy (ZcI m s p) k<0)||decide (Zdn (Zdy (Z4 u8 r m) k) k<Zdn (Zdy (ZcI m s p) k) k)))<;>rfl
 refine⟨?_,h2,by simp only[ZJW,ZCX,h1]⟩;simp only[Zws,h1];exact h2
theorem ZRB (p:PICT):ZNC p=vReq p:=by simp only[ZNC,ZTy,vReq,Z3i,RT.val]
theorem ZYB (p:PICT) (l:Int):ZFc p l=ZaL p l:=by simp only[ZFc,Zwz,ZaL,ZCV,RT.val]
theorem ZTT (p:PICT) (hs:inR .u8 p.2.2.2.2.2.2.2.2.2.2.2.2.2.2.1):Zle p=true/\ZrT p=true/\Za9 p=vPck p:=by
 obtain⟨h1,h2,h3⟩:=ZJY (vReq p) p.2.2.2.2.2.2.2.2.2.2.2.2.2.2.2.1 p.2.2.2.2.2.2.2.2.2.2.2.2.2.2.1 p.2.2.2.2.2.2.2.2.2.2.2.2.2.2.2.2.1 p.2.2.2.2.2.2.2.2.2.1 hs;have e1:(Zpp p).val=some (ZCX (vReq p) p.2.2.2.2.2.2.2.2.2.2.2.2.2.2.2.1 p.2.2.2.2.2.2.2.2.2.2.2.2.2.2.1 p.2.2.2.2.2.2.2.2.2.2.2.2.2.2.2.2.1 p.2.2.2.2.2.2.2.2.2.1):=by simp only[Zpp,RT.val,ZRB,h1,h3,Yb]
 have e2:(ZCZ p).val=some (ZCX (vReq p) p.2.2.2.2.2.2.2.2.2.2.2.2.2.2.2.1 p.2.2.2.2.2.2.2.2.2.2.2.2.2.2.1 p.2.2.2.2.2.2.2.2.2.2.2.2.2.2.2.2.1 p.2.2.2.2.2.2.2.2.2.1):=by simp only[ZCZ,RT.val,h2,Yb]
 exact⟨by simp only[Zle,e1,okB],by simp only[ZrT,e2,okB],by simp only[Za9,vPck,e1,e2]⟩
theorem Z2R (p:PICT) (hs:inR .u8 p.2.2.2.2.2.2.2.2.2.2.2.2.2.2.1):ZTF p=true/\ZL2 p=true/\Z4w p=vInt p:=by
 obtain⟨h1,h2,h3⟩:=ZJY (vReq p) p.2.2.2.2.2.2.2.2.2.2.2.2.2.2.2.1 p.2.2.2.2.2.2.2.2.2.2.2.2.2.2.1 p.2.2.2.2.2.2.2.2.2.2.2.2.2.2.2.2.1 p.2.2.2.2.2.2.2.2.2.1 hs;obtain⟨g1,g2,g3⟩:=ZTT p hs;have e2:(ZL1 p).val=some (decide (vPck p>=0)):=by simp only[ZL1,RT.val,g2,Yb]
 have e1:(ZAO p).val=some (decide (vPck p>=0)):=by simp only[ZAO,RT.val,g1,g3,ZRB,h1,h3,Yb]
 exact⟨by simp only[ZTF,e1,okB],by simp only[ZL2,e2,okB],by simp only[Z4w,vInt,e1,e2]⟩
theorem ZW8 (d):Z0Q d=ZM d:=by simp only[Z0Q,ZXb,ZM,ZnE,RT.val]
theorem ZW7 (d:QT4) (r v:Int):ZHv d r v=ZeA d r v:=by
 obtain⟨h0,h3⟩:=and3 r;simp only[ZHv,ZyH,ZeA,Zuj,RT.val];generalize andI .i64 r 3=q at*;have:q=0\/q=1\/q=2\/q=3:=by omega
 rcases this with rfl|rfl|rfl|rfl<;>simp
theorem Z56 (d):Z57 d=Zcb d:=by simp only[Z57,ZXa,Zcb,ZfL,RT.val,ZW8]
theorem Z0M (d:QT4) (r:Int):ZkI d r=true/\ZLE d r=Zis d r:=by
 obtain⟨h0,h3⟩:=and3 r;have hv:(ZkH d r).val=some (ZLE d r):=by
  simp only[ZkH,ZLE,ZHA,RT.val];generalize andI .i64 r 3=q at*;have:q=0\/q=1\/q=2\/q=3:=by omega
  rcases this with rfl|rfl|rfl|rfl<;>simp[iN]
 exact⟨by simp only[ZkI,hv,okB],by simp only[Zis,hv,getO]⟩
theorem ZYd (p:PICT) (x:Int):Zww p x=Zsh p x:=rfl
theorem ZRa (p:PICT) (x:Int):Ztj p x=ZCT p x/\Zld p x=ZgV p x:=by simp only[Ztj,ZCT,Zld,ZgV,ZYd];exact⟨trivial,Tv⟩
theorem Z50 (p:PICT) (x:Int):ZJ5 p x=Zzp p x:=rfl
theorem Z2V (p:PICT) (x:Int):ZNE p x=ZL4 p x/\Ztl p x=Ziu p x:=by simp only[ZNE,ZL4,Ztl,Ziu,Z50];exact⟨trivial,Tv⟩
theorem Z6b (p:PICT) (v:Int):ZJ8 p v=ZmF p v:=by simp only[ZJ8,ZFe,ZmF,ZnG,RT.val];cases p.2.2.2.1<;>rfl
theorem Z1w (p:PICT) (x:Int):Ztj p x=ZCT p x:=(ZRa p x).1
theorem Z1v (p:PICT) (x:Int):Zld p x=ZgV p x:=(ZRa p x).2
theorem Z7M (p:PICT) (x:Int):ZNE p x=ZL4 p x:=(Z2V p x).1
theorem Z7L (p:PICT) (x:Int):Ztl p x=Ziu p x:=(Z2V p x).2
theorem Z6i (p:PICT) (hs:inR .u8 p.2.2.2.2.2.2.2.2.2.2.2.2.2.2.1):(ZAR p).val=(ZL5 p).val:=by
 obtain⟨g1,g2,g3⟩:=ZTT p hs;have hd:decide (vPck p>=0)= !decide (vPck p<0):=by
  by_cases h:vPck p<0
  ·have:¬vPck p>=0:=by omega
   simp[h,this]
  ·have:vPck p>=0:=by omega
   simp[h,this]
 simp only[ZAR,ZL5,RT.val,g1,g2,g3,Z1w,Z1v,Z7M,Z7L,hd];cases h:decide (vPck p<0)
 ·have h0:decide (0<=vPck p)=true:=by simp at h|-;omega
  simp only[ZCT,ZgV,Zsh,RT.val,h0,getO,okB,Yf,Ym,Yb,Yc,Yt,Yj]
 ·simp only[Yf,Ym,Yb,Yc,Yt,Yj]
theorem Z26 (p:PICT) (hs:inR .u8 p.2.2.2.2.2.2.2.2.2.2.2.2.2.2.1):Z4x p=vAck p/\ZTL p=ZL6 p:=by simp only[Z4x,vAck,ZTL,ZL6,Z6i p hs];exact⟨trivial,Tv⟩
theorem Z7C (x:Int):decide (x>=0)= !decide (x<0):=by by_cases h:x<0<;>simp[h]<;>omega
theorem Z7E (x:Int):decide (0<=x)= !decide (x<0):=by by_cases h:x<0<;>simp[h]<;>omega
theorem ZZ9 (p:PICT) (v:Int) (hs:inR .u8 p.2.2.2.2.2.2.2.2.2.2.2.2.2.2.1):(ZAQ p v).val=(Zsn p v).val:=by
 have eb:(bif p.2.2.2.2.2.2.2.2.2.1 then Z4 u8 p.2.2.2.2.2.2.2.2.2.2.2.2.2.2.1 p.2.2.2.2.2.2.2.2.2.2.2.2.2.2.2.1 else p.2.2.2.2.2.2.2.2.2.2.2.2.2.2.1)=ZcI p.2.2.2.2.2.2.2.2.2.2.2.2.2.2.2.1 p.2.2.2.2.2.2.2.2.2.2.2.2.2.2.1 p.2.2.2.2.2.2.2.2.2.1:=by cases p.2.2.2.2.2.2.2.2.2.1<;>simp[ZcI,ZkK,RT.val]
 have hb:inR .u8 (ZcI p.2.2.2.2.2.2.2.2.2.2.2.2.2.2.2.1 p.2.2.2.2.2.2.2.2.2.2.2.2.2.2.1 p.2.2.2.2.2.2.2.2.2.1):=by
  rw[<-eb];cases p.2.2.2.2.2.2.2.2.2.1
  ·exact hs
  ·exact Zax _ _
 obtain⟨h1,h2,h3⟩:=ZHn _ p.2.2.2.2.2.2.2.2.2.2.2.2.2.2.2.2.1 hb;have h4:decide (0<=IntKind.wrap .i64 (andI .u8 v 7))=true:=by have:=Z7R v;rw[wrap_i64 _ (by omega) (by omega)];exact YJ this.1
 simp only[ZAQ,Zsn,RT.val,eb,h1,h2,h3,h4,Z7C,Z7E,ZbQ,ZaM,Yh,Yf,Yaa,Bool.not_not,Yu,Yj,Yb,Yc];generalize shrI u8 v 5=w;generalize Zdy _ _=t;by_cases w0:w=0
 ·subst w0;rfl
 by_cases w1:w=1
 ·subst w1;cases decide (t<0)<;>rfl
 by_cases w3:w=3
 ·subst w3;rfl
 by_cases w4:w=4
 ·subst w4;rfl
 by_cases w5:w=5
 ·subst w5;cases decide (t<0)<;>rfl
 by_cases w6:w=6
 ·subst w6;rfl
 by_cases w7:w=7
 ·subst w7;rfl
 have e0:(w==0)=false:=by simpa using w0
 have e1:(w==1)=false:=by simpa using w1
 have e3:(w==3)=false:=by simpa using w3
 have e4:(w==4)=false:=by simpa using w4
 have e5:(w==5)=false:=by simpa using w5
 have e6:(w==6)=false:=by simpa using w6
 have e7:(w==7)=false:=by simpa using w7
 rw[e0,e1,e3,e4,e5,e6,e7];rfl
theorem Z5q (p:PICT) (v:Int) (hs:inR .u8 p.2.2.2.2.2.2.2.2.2.2.2.2.2.2.1):ZZi p v=ZX1 p v/\ZJ9 p v=Zso p v:=by simp only[ZZi,ZX1,ZJ9,Zso,ZZ9 p v hs];exact⟨trivial,Tv⟩
theorem ZPC (p:PICT) (h:Bool) (v:Int) (hs:inR .u8 p.2.2.2.2.2.2.2.2.2.2.2.2.2.2.1):(ZjO p h v).val=(ZkF p h v).val:=by obtain⟨h1,h2⟩:=Z5q p v hs;have hf:Zl1 p v=(2,andI u8 v 8 !=0,andI u8 v 4 !=0,andI u8 v 2 !=0,andI u8 v 1 !=0,andI u8 v 224,0,false,false,false,false,false,p.2.2.2.2.2.2.2.2.2.2.2.2.1,0,0,0,7,0,0,false):=rfl;simp only[ZjO,ZkF,RT.val,h1,h2,hf,Z6b,Bool.or_comm (andI u8 v 4 !=0)]
theorem ZHM (p:PICT) (h:Bool) (v:Int) (hs:inR .u8 p.2.2.2.2.2.2.2.2.2.2.2.2.2.2.1):ZE9 p h v=Zby p h v/\Zwv p h v=ZkG p h v:=by simp only[ZE9,Zby,Zwv,ZkG,ZPC p h v hs];exact⟨trivial,Tv⟩
def Zuo (p:PICT):PICT:=(p.1,p.2.1,p.2.2.1,p.2.2.2.1,p.2.2.2.2.1,p.2.2.2.2.2.1,p.2.2.2.2.2.2.1,p.2.2.2.2.2.2.2.1,p.2.2.2.2.2.2.2.2.1,p.2.2.2.2.2.2.2.2.2.1,p.2.2.2.2.2.2.2.2.2.2.1,false,p.2.2.2.2.2.2.2.2.2.2.2.2)
theorem Zsr (p:PICT):vPck (Zuo p)=vPck p/\ZrT (Zuo p)=ZrT p:=⟨rfl,rfl⟩
theorem ZZd (x:Int) (h0: -1<=x) (h1:x<=7):IntKind.wrap .u8 (128+IntKind.wrap .u8 x)=IntKind.wrap .u8 (IntKind.wrap .i64 (128+x)):=by
 have:x= -1\/x=0\/x=1\/x=2\/x=3\/x=4\/x=5\/x=6\/x=7:=by omega
 rcases this with rfl|rfl|rfl|rfl|rfl|rfl|rfl|rfl|rfl<;>decide
theorem ZYz (p:PICT) (h:Bool) (hs:inR .u8 p.2.2.2.2.2.2.2.2.2.2.2.2.2.2.1):(Zpk p h).val=(Zsk p h).val:=by obtain⟨g1,g2,g3⟩:=ZTT (Zuo p) hs;rw[(Zsr p).1] at g3;rw[(Zsr p).2] at g2;obtain⟨_,a1,a2⟩:=Zum p;have hx:(p.1,p.2.1,p.2.2.1,p.2.2.2.1,p.2.2.2.2.1,p.2.2.2.2.2.1,p.2.2.2.2.2.2.1,p.2.2.2.2.2.2.2.1,p.2.2.2.2.2.2.2.2.1,p.2.2.2.2.2.2.2.2.2.1,p.2.2.2.2.2.2.2.2.2.2.1,false,p.2.2.2.2.2.2.2.2.2.2.2.2)=Zuo p:=rfl;simp only[Zpk,Zsk,RT.val,hx,g1,g2,g3,Z1w,Z1v,Z7M,Z7L,ZRB,ZZd _ a1 a2,ZbQ,ZaM,Yh,Yf,Yj]
theorem ZRE (p:PICT) (h:Bool) (hs:inR .u8 p.2.2.2.2.2.2.2.2.2.2.2.2.2.2.1):ZTC p h=ZkJ p h/\ZFb p h=Zsl p h:=by simp only[ZTC,ZkJ,ZFb,Zsl,ZYz p h hs];exact⟨trivial,Tv⟩
theorem Zmc {p:PICT} (h:okHL Z1d p):inR .u8 p.2.2.2.2.2.2.2.2.2.2.2.2.2.2.1:=h.2.2.2.2.2.2.2.2.2.2.2.2.2.2.1
def Zpq:En:=Zf Z1d ZpN (λ_=>none) (λa=>vInt a)
theorem ZAP:Za prog 199 Zpq:=ZZg.tot (λa h=>by have:=(Z2R a (Zmc h)).1;simp[this]) (λa h=>(Z2R a (Zmc h)).2.2)
def Zhq:En:=Zf ZIe Z1l (λ_=>none) (λa=>ZaL a.1 a.2)
theorem Zpn:Za prog 198 Zhq:=ZND.tot (λa h=>by simp) (λa h=>ZYB _ _)
def Zhp:En:=Zf ZH6 Z1l (λ_=>none) (λa=>Zby a.1 a.2.1 a.2.2)
theorem Zpj:Za prog 207 Zhp:=ZNB.tot (λa h=>by have h1:=(ZHM a.1 a.2.1 a.2.2 (Zmc h.1)).2;have h2:=Zzk a.1 a.2.1 a.2.2;rw[h2] at h1;simp[h1]) (λa h=>(ZHM a.1 a.2.1 a.2.2 (Zmc h.1)).1)
def ZjQ:En:=Zf ZQe ZCU (λ_=>none) (λa=>ZkJ a.1 a.2)
theorem Ztk:Za prog 205 ZjQ:=ZTB.tot (λa h=>by have h1:=(ZRE a.1 a.2 (Zmc h.1)).2;have h2:=ZIa a.1 a.2;rw[h2] at h1;simp[h1]) (λa h=>(ZRE a.1 a.2 (Zmc h.1)).1)
def Zpr:En:=Zf Z1d ZCU (λ_=>none) (λa=>vAck a)
theorem ZAS:Za prog 203 Zpr:=ZZj.tot (λa h=>by have h1:=(Z26 a (Zmc h)).2;have h2:=ZQy a;rw[h2] at h1;simp[h1]) (λa h=>(Z26 a (Zmc h)).1)
def Zgy:En:=Zf Zsi ZpN (λ_=>none) (λa=>ZM a)
theorem Zkr:Za prog 141 Zgy:=ZLD.tot (λa h=>by simp) (λa h=>ZW8 _)
def Zks:En:=Zf ZIb ZVv (λ_=>none) (λa=>Zis a.1 a.2)
theorem ZtU:Za prog 206 Zks:=ZXc.tot (λa h=>by simp) (λa h=>(Z0M _ _).2)
def ZhJ:En:=Zf Zzl Zzm (λ_=>none) (λa=>ZeA a.1 a.2.1 a.2.2)
theorem ZrA:Za prog 208 ZhJ:=ZPo.tot (λa h=>by simp) (λa h=>ZW7 _ _ _)
def ZrB:En:=Zf Zsi ZnC (λ_=>none) (λa=>Zcb a)
theorem ZCr:Za prog 142 ZrB:=Z0P.tot (λa h=>by simp) (λa h=>Z56 _)
abbrev ZXn:En:=ZrE (R.Pq Ka Ka) 194
theorem ZXm:Za prog 121 ZXn:=
 ZlS (P:=prog) (n:=15) (k:=8) (l:=[]) (ol:=[]) trivial Tryz.func121 rfl (by kernel_rfl) Tryz.call121 trivial
  (λm=>⟨{chk:=none,v:=.w (.one .nilsl),m:=m,bd:=[],sd:=[]},by kernel_rfl,rfl,rfl⟩)
  (λm l h=>⟨{chk:=none,v:=.w (.one (.tip (len m.Sg) 0)),m:={m with Sg:=m.Sg++[ZgK (R.Pq (R.int u8) (R.int u8)) 194 l]},bd:=[],sd:=[]},by
   have e:(Zq (envX prog [] [] 15 8) Tryz.f121 [.w (.one (.lst (R.Pq (R.int u8) (R.int u8)) false false true l))] m).val=cond (Nat.ble ([]++l).length most) (some {chk:=none,v:=.w (.one (.tip (len m.Sg) 0)),m:={m with Sg:=m.Sg++[ZgK (R.Pq (R.int u8) (R.int u8)) 194 ([]++l)]},bd:=[],sd:=[]}) none:=by kernel_rfl
   rw[e,List.nil_append,h];rfl,rfl,rfl⟩)
def Znl:En:=Zf [.one (.sl (R.Pq Kb Ka))] (.one (.one (.sl (R.Pq Kb Ka)))) (λl=>some (Nat.ble l.length most)) (λl=>l)
theorem ZtW:Za prog 98 Znl:=
 Z0a (P:=prog) (n:=15) (k:=8) (l:=[]) (ol:=[]) trivial Tryz.func98 rfl (by kernel_rfl) Tryz.call98 trivial (r:=R.Pq (R.int u16) (R.int u8)) (rs:=.one (.one (.sl (R.Pq (R.int u16) (R.int u8))))) (pre:=λl=>Nat.ble l.length most) (F:=λl=>l) (by kernel_rfl)
  (λl h=>by
   have e:(evOf (envX prog [] [] 15 8) Tryz.f98 (.one (.one (.sl (R.Pq (R.int u16) (R.int u8))))) [.w (.one (.lst (R.Pq (R.int u16) (R.int u8)) false false true l))]).val=cond (Nat.ble ([]++l).length most) (some ([]++l)) none:=by kernel_rfl
   rw[e,List.nil_append,h];rfl)
