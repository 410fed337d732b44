import Derived.Test.YtghoimllhpjkjaaGreatIsaQ
open Go.IntKind (u8 u16 i64)
open Go Go.S3 Go.Proofs Go.Proofs.Cells
set_option linter.unusedVariables false
set_option linter.unusedSimpArgs false
set_option maxRecDepth 100000
namespace Go.Proofs.YtghoimllhpjkjaaGreat
noncomputable section
theorem smCb {l:List Cell} (h:l.length<=1000000):smC l=true:=ZaN (by have:=mst;omega)
theorem smGb {l:List Z4} (h:l.length<=1000000):smG l=true:=ZaN (by have:=mst;omega)
def ZA (b:BRDT) (s:SYST) (i:INPT):SYST:=(s.1,s.2.1,(bif !b.2.2.2.2.2.1 then Zw6 s.2.2.1 i.2.2.2.2.2.2.2.2.1 else s.2.2.1),s.2.2.2)
def ZbR (b:BRDT) (s:SYST) (i:INPT):LINT:=
 (i.1&&decide (ZfZ s>=ZGS b s.1.2.2.2.1),i.2.1||ZbH s.2.2.2.1,i.2.2.1,i.2.2.2.1,i.2.2.2.2.1,i.2.2.2.2.2.1,i.2.2.2.2.2.2.1,i.2.2.2.2.2.2.2.1,
  bif b.2.2.2.2.2.1 then andI .u8 i.2.2.2.2.2.2.2.2.1 1==1 else vInt s.2.2.1)
def busS (b:BRDT) (s:SYST) (i:INPT):SYST×Int:=
 let x:=s.1.2.2.2.1
 let q:=ZcI b (IntKind.wrap .u8 x.2.1)
 let d:=ZeF b (IntKind.wrap .u8 x.2.1)
 bif i.2.2.1||(ZU s.1 !=3|| !Za2 x.1) then (s,0) else
 bif decide (x.1>=1)&&decide (x.1<=5) then (s,Zmw b.2.1 s.2.1 x.2.1) else
 bif x.1 !=6&&b.2.2.2.2.2.1 then (s,i.2.2.2.2.2.2.2.2.2) else
 bif x.1 !=6 then ((s.1,s.2.1,(vAck s.2.2.1).1,s.2.2.2),(vAck s.2.2.1).2) else
 bif q.2 then ((s.1,s.2.1,(ZG0 s.2.2.1 q.1).1,s.2.2.2),(ZG0 s.2.2.1 q.1).2) else
 bif d.2 then (s,ZCx s.2.2.2.1 d.1) else (s,i.2.2.2.2.2.2.2.2.2)
def ZfM (b:BRDT) (s:SYST) (x:TY):SYST:=
 let q:=ZcI b (IntKind.wrap .u8 x.2.1)
 let d:=ZeF b (IntKind.wrap .u8 x.2.1)
 bif x.1 !=7 then (s.1,ZdH b.2.1 s.2.1 x.2.1 x.2.2.1,s.2.2) else
 (s.1,s.2.1,(bif q.2 then ZCp s.2.2.1 q.1 x.2.2.1 else s.2.2.1),(bif q.2 then s.2.2.2.1 else bif d.2 then ZtM s.2.2.2.1 d.1 x.2.2.1 else s.2.2.2.1),s.2.2.2.2.1,
  s.2.2.2.2.2++[(IntKind.wrap .u8 x.2.1,x.2.2.1)])
def stepP (p:PICT) (n:Int):PICT:=
 (p.1,p.2.1,p.2.2.1,p.2.2.2.1,p.2.2.2.2.1,p.2.2.2.2.2.1,p.2.2.2.2.2.2.1,p.2.2.2.2.2.2.2.1,p.2.2.2.2.2.2.2.2.1,p.2.2.2.2.2.2.2.2.2.1,p.2.2.2.2.2.2.2.2.2.2.1,p.2.2.2.2.2.2.2.2.2.2.2.1,
  p.2.2.2.2.2.2.2.2.2.2.2.2.1,p.2.2.2.2.2.2.2.2.2.2.2.2.2.1,p.2.2.2.2.2.2.2.2.2.2.2.2.2.2.1,p.2.2.2.2.2.2.2.2.2.2.2.2.2.2.2.1,p.2.2.2.2.2.2.2.2.2.2.2.2.2.2.2.2.1,n,p.2.2.2.2.2.2.2.2.2.2.2.2.2.2.2.2.2.2)
def ZFX (p:PINT):Bool:=p.2.2.2.2.2.2.2.2.2.2.2.2.2.2.2.1
def ZtA (s:SYST) (i:INPT):Bool:= !i.2.2.1&&(ZU s.1==3&&Zbx s.1.2.2.2.1.1)
def Zgl (b:BRDT) (s:SYST) (i:INPT):SYST:=
 let t:=ZA b s i
 let u:=busS b t i
 ((Zs u.1.1 (ZbR b t i) u.2),u.1.2.1,u.1.2.2.1,u.1.2.2.2.1,ZfZ t,u.1.2.2.2.2.2)
def ZeA (b:BRDT) (s:SYST) (i:INPT):SYST:=bif ZtA s i then ZfM b (Zgl b s i) s.1.2.2.2.1 else Zgl b s i
def pinS (b:BRDT) (s:SYST) (i:INPT):PINT:=ZeW (busS b (ZA b s i) i).1.1 (ZbR b (ZA b s i) i) (busS b (ZA b s i) i).2
def Zg7 (b:BRDT) (s:SYST) (i:INPT):Bool:=ZFX (pinS b s i)&&ZbH (ZeA b s i).2.2.2.1
def ZFs (b:BRDT) (s:SYST) (i:INPT):SYST:=
 let w:=ZeA b s i
 bif Zg7 b s i then (w.1,ZdH b.2.1 w.2.1 w.2.2.2.1.1 w.2.2.2.1.2.1,w.2.2.1,(IntKind.wrap .u16 (w.2.2.2.1.1+1),w.2.2.2.1.2.1,IntKind.wrap .i64 (w.2.2.2.1.2.2-1)),w.2.2.2.2) else w
def ZDk (s:SYST) (r:Bool):SYST:=bif r then (s.1,s.2.1,stepP s.2.2.1 0,(s.2.2.2.1.1,s.2.2.2.1.2.1,0),s.2.2.2.2) else s
def ZaM (b:BRDT) (s:SYST) (i:INPT):SYST×PINT×LINT×Int×Cell×Bool:=
 (ZDk (ZFs b s i) i.2.2.1,pinS b s i,ZbR b (ZA b s i) i,(busS b (ZA b s i) i).2,
  (bif Zg7 b s i then ((ZeA b s i).2.2.2.1.1,(ZeA b s i).2.2.2.1.2.1) else (0,0)),Zg7 b s i)
theorem ZGR (b:BRDT) (x:TY) (hg:smG b.2.1=true):ZwF b x=true:=by
 unfold ZwF ZwE;simp only[RT.val,hg,Ye,Ya];cases decide (x.1>=1)&&decide (x.1<=5)
 ·cases x.1==6||x.1==7<;>rfl
 ·rfl
theorem Zzz (b:BRDT) (s:SYST) (i:INPT) (hg:smG b.2.1=true):ZiM b s i=true/\Znt b s i=ZbR b s i:=by
 have hv:(Zgo b s i).val=some (ZbR b s i):=by unfold Zgo ZbR;simp only[RT.val,ZKu,ZGR b _ hg,Ye,Ya,Bool.cond_self]
 exact⟨by simp only[ZiM,hv];rfl,by simp only[Znt,hv,getO]⟩
theorem ZKk (b:BRDT) (s:SYST) (i:INPT) (hg:smG b.2.1=true) (hc:smC s.2.1=true):ZGV b s i=true/\wBus b s i=busS b s i:=by
 have hv:(ZCi b s i).val=some (busS b s i):=by
  unfold ZCi busS;simp only[RT.val,ZKx,ZGZ,ZCv,hg,hc,Zdg,ZbW,R.sel_eq,Yaf,Ye,Yg,Yn,Ya];cases i.2.2.1||(ZU s.1 !=3|| !Za2 s.1.2.2.2.1.1)
  ·cases decide (s.1.2.2.2.1.1>=1)&&decide (s.1.2.2.2.1.1<=5)
   ·cases s.1.2.2.2.1.1 !=6
    ·cases (ZcI b (IntKind.wrap .u8 s.1.2.2.2.1.2.1)).2
     ·cases (ZeF b (IntKind.wrap .u8 s.1.2.2.2.1.2.1)).2<;>rfl
     ·rfl
    ·cases b.2.2.2.2.2.1<;>rfl
   ·rfl
  ·rfl
 exact⟨by simp only[ZGV,hv];rfl,by simp only[wBus,hv,getO]⟩
theorem ZBU (b:BRDT) (s:SYST) (x:TY) (hg:smG b.2.1=true) (hc:smC s.2.1=true) (ho:s.2.2.2.2.2.length<=1000000):Zns b s x=true/\ZwD b s x=ZfM b s x:=by
 have hms:=mst;have h1:Nat.ble (List.length s.2.2.2.2.2) most=true:=ZaN (by omega);have h2:∀y:Int×Int,Nat.ble (List.length (s.2.2.2.2.2++[y])) most=true:=λy=>ZaN (by simp;omega)
 have hv:(Zje b s x).val=some (ZfM b s x):=by
  unfold Zje ZfM;simp only[RT.val,ZCn,h1,h2,hg,hc,R.sel_eq,Yaf,Ye,Yg,Yn,Ya,List.nil_append];cases x.1 !=7
  ·rfl
  ·rfl
 exact⟨by simp only[Zns,hv];rfl,by simp only[ZwD,hv,getO]⟩
theorem Zhq (b:BRDT) (s:SYST) (i:INPT):(busS b s i).1.1=s.1/\(busS b s i).1.2.1=s.2.1/\(busS b s i).1.2.2.2=s.2.2.2:=by
 unfold busS;dsimp only;cases i.2.2.1||(ZU s.1 !=3|| !Za2 s.1.2.2.2.1.1)
 ·cases decide (s.1.2.2.2.1.1>=1)&&decide (s.1.2.2.2.1.1<=5)
  ·cases s.1.2.2.2.1.1 !=6
   ·cases (ZcI b (IntKind.wrap .u8 s.1.2.2.2.1.2.1)).2
    ·cases (ZeF b (IntKind.wrap .u8 s.1.2.2.2.1.2.1)).2<;>exact⟨rfl,rfl,rfl⟩
    ·exact⟨rfl,rfl,rfl⟩
   ·cases b.2.2.2.2.2.1<;>exact⟨rfl,rfl,rfl⟩
  ·exact⟨rfl,rfl,rfl⟩
 ·exact⟨rfl,rfl,rfl⟩
theorem ZqM (b:BRDT) (s:SYST) (x:TY):(ZfM b s x).1=s.1/\(ZfM b s x).2.1.length<=s.2.1.length+1/\(ZfM b s x).2.2.2.2.2.length<=s.2.2.2.2.2.length+1:=by
 have:=Zqi b.2.1 s.2.1 x.2.1 x.2.2.1;unfold ZfM;dsimp only;cases x.1 !=7
 ·exact⟨rfl,by simp only[Yb];omega,by simp only[Yb];simp⟩
 ·exact⟨rfl,by simp only[Ya];omega,by simp only[Ya];omega⟩
theorem Zzs (b:BRDT) (s:SYST) (i:INPT):(Zgl b s i).2.1=s.2.1/\(Zgl b s i).2.2.2.2.2=s.2.2.2.2.2:=by have h:=Zhq b (ZA b s i) i;unfold Zgl;simp only[h.1,h.2.1,h.2.2];exact⟨rfl,rfl⟩
theorem Zqh (b:BRDT) (s:SYST) (i:INPT):(ZeA b s i).1=(Zgl b s i).1/\(ZeA b s i).2.1.length<=s.2.1.length+1/\(ZeA b s i).2.2.2.2.2.length<=s.2.2.2.2.2.length+1:=by
 have h1:=Zzs b s i;have h2:=ZqM b (Zgl b s i) s.1.2.2.2.1;rw[h1.1,h1.2] at h2;unfold ZeA;cases ZtA s i
 ·exact⟨rfl,by simp only[Yb,h1.1];omega,by simp only[Yb,h1.2];omega⟩
 ·exact h2
theorem Ztt (b:BRDT) (s:SYST) (i:INPT):(ZaM b s i).1.1=(Zgl b s i).1/\(ZaM b s i).1.2.1.length<=s.2.1.length+2/\(ZaM b s i).1.2.2.2.2.2.length<=s.2.2.2.2.2.length+1:=by have h1:=Zqh b s i;have h2:=Zqi b.2.1 (ZeA b s i).2.1 (ZeA b s i).2.2.2.1.1 (ZeA b s i).2.2.2.1.2.1;unfold ZaM ZDk ZFs;dsimp only;cases Zg7 b s i<;>cases i.2.2.1<;>simp only[Ya,Yb]<;>exact⟨h1.1,by omega,h1.2.2⟩
theorem ZCe (b:BRDT) (s:SYST) (i:INPT) (hg:smG b.2.1=true) (hc:s.2.1.length<=900000) (ho:s.2.2.2.2.2.length<=900000) (hk:s.1.2.2.1.length<=900000):
  Zny b s i=true/\ZwO b s i=ZaM b s i:=by
 have hms:=mst;have hv:(Zjl b s i).val=some (ZaM b s i):=by
  have hr:(s.1,s.2.1,(bif !b.2.2.2.2.2.1 then Zw6 s.2.2.1 i.2.2.2.2.2.2.2.2.1 else s.2.2.1),s.2.2.2)=ZA b s i:=rfl;have h1:=Zzz b (ZA b s i) i hg;have h2:=ZKk b (ZA b s i) i hg (smCb (by show s.2.1.length<=_;omega));have h3:=Zhq b (ZA b s i) i;have h4:ZDi (busS b (ZA b s i) i).1.1=true:=by rw[h3.1];exact ZjD.2 (by show s.1.2.2.1.length+1<=_;omega)
  have h5:=Zzs b s i;have h6:=ZBU b (Zgl b s i) s.1.2.2.2.1 hg (smCb (by rw[h5.1];omega)) (by rw[h5.2];omega);have h7:=Zqh b s i
  have hcs:(Zs (busS b (ZA b s i) i).1.1 (ZbR b (ZA b s i) i) (busS b (ZA b s i) i).2,(busS b (ZA b s i) i).1.2.1,(busS b (ZA b s i) i).1.2.2.1,(busS b (ZA b s i) i).1.2.2.2.1,ZfZ (ZA b s i),
   (busS b (ZA b s i) i).1.2.2.2.2.2)=Zgl b s i:=rfl
  have ht:∀d:QT6,Zgu d=bif ZbH d then ((IntKind.wrap .u16 (d.1+1),d.2.1,IntKind.wrap .i64 (d.2.2-1)),(d.1,d.2.1),true) else ((0,0,0),(0,0),false):=λd=>by unfold Zgu Zhw;simp only[RT.val];cases ZbH d<;>rfl
  have h8:smC (ZfM b (Zgl b s i) s.1.2.2.2.1).2.1=true:=smCb (by have:=(ZqM b (Zgl b s i) s.1.2.2.2.1).2.1;rw[h5.1] at this;omega);have h9:smC (busS b (ZA b s i) i).1.2.1=true:=smCb (by rw[h3.2.1];show s.2.1.length<=_;omega);unfold Zjl;simp only[hr,RT.val,h1.1,h1.2,h2.1,h2.2,h4,clkX,hcs,h6.1,h6.2,ht,R.sel_eq,Ye,Ya];unfold ZaM ZDk ZFs Zg7 ZeA ZtA pinS ZFX;dsimp only;cases !i.2.2.1&&(ZU s.1==3&&Zbx s.1.2.2.2.1.1)
  ·simp only[Yb,h9,hg,Yaf,Ye,Ya];cases (ZeW (busS b (ZA b s i) i).1.1 (ZbR b (ZA b s i) i) (busS b (ZA b s i) i).2).2.2.2.2.2.2.2.2.2.2.2.2.2.2.2.1
   ·cases i.2.2.1<;>rfl
   ·have e:ZbH ((busS b (ZA b s i) i).1.2.2.2.1.1,(busS b (ZA b s i) i).1.2.2.2.1.2.1,(busS b (ZA b s i) i).1.2.2.2.1.2.2)=ZbH (Zgl b s i).2.2.2.1:=rfl;rw[e];cases ZbH (Zgl b s i).2.2.2.1<;>cases i.2.2.1<;>rfl
  ·simp only[Ya,h8,hg,Yaf,Ye];cases (ZeW (busS b (ZA b s i) i).1.1 (ZbR b (ZA b s i) i) (busS b (ZA b s i) i).2).2.2.2.2.2.2.2.2.2.2.2.2.2.2.2.1
   ·cases i.2.2.1<;>rfl
   ·cases ZbH (ZfM b (Zgl b s i) s.1.2.2.2.1).2.2.2.1<;>cases i.2.2.1<;>rfl
 exact⟨by simp only[Zny,hv];rfl,by simp only[ZwO,hv,getO]⟩
def Zcy {α:Type} (l:List α) (f:α->α):List α:=match l.getLast? with
 |some y=>l.dropLast++[f y]
 |none=>[]
variable {α:Type}
theorem Zat (l:List α) (y:α) (f:α->α):Zcy (l++[y]) f=l++[f y]:=by simp[Zcy]
def Zlw (ZV:TC) (l:List TC):TC:=l.getLastD ZV
theorem Zqj (l:List α) (y:α) (h:l.length<=1000000):IntKind.wrap .i64 (iN (l++[y]).length-1)=(l.length:Int):=by simp only[iN,Yf,List.length_cons,List.length_nil];rw[Zq _ (by omega) (by omega)];omega
theorem Zze {r:R} (l:List r.den) (y:r.den):R.get r (l++[y]) (l.length:Int)=y:=by simp[R.get]
theorem Zxm (l:List α) (y z:α):setI (l++[y]) (l.length:Int) z=l++[z]:=by simp[setI]
theorem Zxo (l:List α) (y:α):Ze (l.length:Int) (l++[y]).length=true:=ZB.2 ⟨by omega,by simp;omega⟩
def Zhb (t:Int):Int:=bif t==8 then 2 else bif t==9 then 3 else bif t==10 then 4 else 1
def cycN (c:CORT) (t:Int) (x:TY):TY:=bif t==8 then (0,0,0,0) else bif t==9 then (0,c.1.2.1.2.2.2.2.2.2.2.2.2,0,0) else bif t==10 then (0,0,0,0) else x
def Zan (c:CORT):Bool:=c.1.2.2.1
def sodC (c:CORT):Bool:=c.1.2.2.2.2.2.2.2.2.2.2.2.2
def ZqR (y:ITMT) (k:Int) (c:CORT):Bool:=y.1==k&&(y.2.2.2.2.1==Zan c&&y.2.2.2.2.2==sodC c)
def ZpK (y:ITMT):ITMT:=(y.1,y.2.1,y.2.2.1,IntKind.wrap .i64 (y.2.2.2.1+1),y.2.2.2.2)
def ZhY (l:List ITMT) (k:Int) (c:CORT) (n:ITMT):List ITMT:=match l.getLast? with
 |some y=>bif ZqR y k c then Zcy l ZpK else l++[n]
 |none=>l++[n]
def ZbN (l:List ITMT) (c:CORT) (x:TY) (t:Int):List ITMT:=
 bif Zhb t !=1 then ZhY l (Zhb t) c (Zhb t,cycN c t x,0,1,Zan c,sodC c)
 else bif t==1 then l++[(1,cycN c t x,0,1,Zan c,sodC c)]
 else bif t==7 then Zcy l (λy=>(y.1,cycN c t x,IntKind.wrap .i64 (y.2.2.1+1),y.2.2.2))
 else Zcy l (λy=>(y.1,cycN c t x,y.2.2.1,IntKind.wrap .i64 (y.2.2.2.1+1),y.2.2.2.2))
def Zzw:TC:=(0,(0,0,0,0,0,0,0,(false,false,false,false,false,false,false),0,0),false,false,false,0,false,false,false,false,false,false,false)
def ZfY:LINT:=(false,false,false,false,false,false,false,false,false)
def rdS (c:CORT) (t d:Int):TY×List Int:=bif t !=3 then (c.2.2.2.1,c.2.2.1) else (ZaW c.1 c.2.2.2.1 d,c.2.2.1++[(ZaW c.1 c.2.2.2.1 d).2.2.1])
def finS (c:CORT) (l:LINT) (d:Int):TC×Bool:=
 bif l.2.2.1 then (Zzw,false) else
 bif !ZhI c.2.2.2.2.1 (rdS c c.2.2.2.2.1 d).1 then (Zzw,false) else
 bif (Zg (Zf c.1 l) c.2.1 (rdS c c.2.2.2.2.1 d).2).2 then (Zzw,false) else (finX (Zf c.1 l) c.2.1 (rdS c c.2.2.2.2.1 d).2 l,true)
def ZfV (c:CORT) (t d:Int):List Int:=bif t==3 then c.2.2.1++[(ZP c t d).2.2.1] else c.2.2.1
def evE (ev:List EVTT) (c:CORT) (l:LINT) (d:Int) (cell:Cell) (moved:Bool):List EVTT:=
 let e1:=bif (finS c l d).2 then ev++[ZeE (Zjg c.2.1,c.2.1,ZfV c (ZU c) d,ZfY,false,false,false,false,0,0) (Zf c.1 l) l] else ev
 bif l.2.2.1 then (bif Zdu c then ev++[ZeE (6,c.2.1,c.2.2.1,ZfY,false,false,false,false,0,0) c.1 l] else ev)++[ZeE (4,0,[],ZfY,false,false,false,false,0,0) c.1 l]
 else bif moved then e1++[(5,0,[],ZfY,false,false,false,false,cell)] else e1
def evC (cp:List TC) (ZV:TC) (c:CORT) (after:CORT) (l:LINT) (d:Int) (moved:Bool):List TC:=
 let c1:=bif (finS c l d).2 then cp++[(finS c l d).1] else cp
 bif l.2.2.1 then (bif Zdu c then cp++[Zlw ZV cp] else cp)++[after.1]
 else bif moved then c1++[Zlw ZV cp] else c1
abbrev STT:=SYST×List PINT×List ITMT×List EVTT×List TC
def nowS (s:SYST) (i:INPT):Int:=bif i.2.2.1 then 10 else ZU s.1
def Zbv (b:BRDT) (ZV:TC) (st:STT) (i:INPT):STT:=
 let k:=ZaM b st.1 i
 (k.1,st.2.1++[k.2.1],ZbN st.2.2.1 st.1.1 (ZP st.1.1 (nowS st.1 i) k.2.2.2.1) (nowS st.1 i),
  evE st.2.2.2.1 st.1.1 k.2.2.1 k.2.2.2.1 k.2.2.2.2.1 k.2.2.2.2.2,evC st.2.2.2.2 ZV st.1.1 k.1.1 k.2.2.1 k.2.2.2.1 k.2.2.2.2.2)
structure RunOk (b:BRDT) (st:STT) (n:Nat):Prop where
 g:smG b.2.1=true
 m:st.1.2.1.length<=100000+2*n
 o:st.1.2.2.2.2.2.length<=n
 k:st.1.1.2.2.1.length<=n
 t:st.2.1.length<=n
 it:st.2.2.1.length<=n
 ev:st.2.2.2.1.length<=2*n
 cp:st.2.2.2.2.length<=2*n
 ne:st.2.2.1=[]->ZU st.1.1=1
theorem ZHw (c:CORT) (t d:Int) (h:c.2.2.1.length<=1000000):ZdX c t d=true/\Zgb c t d=rdS c t d:=by
 have hms:=mst;have h1:Nat.ble (List.length c.2.2.1) most=true:=ZaN (by omega);have h2:∀y:Int,Nat.ble (List.length (c.2.2.1++[y])) most=true:=λy=>ZaN (by simp;omega)
 have hv:(ZgL c t d).val=some (rdS c t d):=by unfold ZgL rdS ZaW;simp only[RT.val,h1,h2,List.nil_append,Ye,Ya];cases t !=3<;>rfl
 exact⟨by simp only[ZdX,hv];rfl,by simp only[Zgb,hv,getO]⟩
theorem ZKi (c:CORT) (l:LINT) (d:Int) (h:c.2.2.1.length<=1000000):Zff c l d=true/\Zgp c l d=finS c l d:=by
 have h1:=ZHw c c.2.2.2.2.1 d h;have hv:(ZdN c l d).val=some (finS c l d):=by
  unfold ZdN finS;simp only[RT.val,h1.1,h1.2,Ya];cases l.2.2.1
  ·cases ZhI c.2.2.2.2.1 (rdS c c.2.2.2.2.1 d).1
   ·rfl
   ·cases (Zg (Zf c.1 l) c.2.1 (rdS c c.2.2.2.2.1 d).2).2<;>rfl
  ·rfl
 exact⟨by simp only[Zff,hv];rfl,by simp only[Zgp,hv,getO]⟩
theorem ZCh (c:CORT) (t d:Int) (h:c.2.2.1.length<=1000000):ZnA c t d=true/\ZwS c t d=ZfV c t d:=by
 have hms:=mst;have h1:Nat.ble (List.length c.2.2.1) most=true:=ZaN (by omega);have h2:∀y:Int,Nat.ble (List.length (c.2.2.1++[y])) most=true:=λy=>ZaN (by simp;omega)
 have hv:(Zjn c t d).val=some (ZfV c t d):=by unfold Zjn ZfV;simp only[RT.val,h1,h2,List.nil_append,Ye,Ya]
 exact⟨by simp only[ZnA,hv];rfl,by simp only[ZwS,hv,getO]⟩
theorem Zy7 (ZV:TC) (l:List TC) (h:l.length<=1000000):
  (!decide (iN l.length>0)||Ze (IntKind.wrap .i64 (iN l.length-1)) l.length)=true/\R.sel ZW (decide (iN l.length>0)) (R.get ZW l (IntKind.wrap .i64 (iN l.length-1))) ZV=Zlw ZV l:=by
 rcases Y1 l with rfl|⟨l',y,rfl⟩
 ·exact⟨rfl,by rw[R.sel_eq];rfl⟩
 ·simp only[YW,Yf,List.length_singleton] at h|-;have w:=Zqj l' y (by omega);have d:decide (iN (l'.length+1)>0)=true:=Yy (by simp only[iN];omega);simp only[Yf,List.length_singleton] at w;rw[w,d,R.sel_eq];have:=Zxo l' y;simp only[Yf,List.length_singleton] at this;rw[this];exact⟨rfl,by simp only[Ya,Zlw];rw[show R.get ZW (l'++[y]) (l'.length:Int)=y from Zze (r:=ZW) l' y];simp⟩
theorem ZDh (b:BRDT) (l:List INPT) (i:Nat) (r0:RUNT) (s0:SYST) (ZV:TC) (st:STT) (n:Nat) (h:RunOk b st n) (hi:i<l.length) (hl:l.length<=100000) (hn:n<=200000):
  (Zed (l,(l.length:Int),(i:Int),b,r0,st.1,s0,ZV,st.2.1,st.2.2.1,st.2.2.2.1,st.2.2.2.2,())).val=
   some (Go1.cont (l,(l.length:Int),((i+1:Nat):Int),b,r0,(Zbv b ZV st (R.get ZcE l (i:Int))).1,s0,ZV,(Zbv b ZV st (R.get ZcE l (i:Int))).2.1,(Zbv b ZV st (R.get ZcE l (i:Int))).2.2.1,
    (Zbv b ZV st (R.get ZcE l (i:Int))).2.2.2.1,(Zbv b ZV st (R.get ZcE l (i:Int))).2.2.2.2,())):=by
 have hms:=mst;obtain⟨s,tr,it,ev,cp⟩:=st;obtain⟨g,m,o,k,t,hit,hev,hcp,ne⟩:=h;simp only at g m o k t hit hev hcp ne;have d:decide ((i:Int)<(l.length:Int))=true:=Yy (by omega);have hin:Ze (i:Int) l.length=true:=ZB.2 ⟨by omega,by omega⟩;have w:IntKind.wrap .i64 ((i:Int)+1)=((i+1:Nat):Int):=by rw[Zq _ (by omega) (by omega)];omega
 obtain⟨q,hq⟩:∃q,R.get ZcE l (i:Int)=q:=⟨_,rfl⟩;rw[hq];have hc:=ZCe b s q g (by omega) (by omega) (by omega);have hf:=ZKi s.1 (ZaM b s q).2.2.1 (ZaM b s q).2.2.2.1 (by omega);have hb:=ZCh s.1 (ZU s.1) (ZaM b s q).2.2.2.1 (by omega);have hlc:=Zy7 ZV cp (by omega);have htr:∀x:PINT,Nat.ble (tr++[x]).length most=true:=λx=>ZaN (by simp;omega)
 have he1:∀x:EVTT,Nat.ble (ev++[x]).length most=true:=λx=>ZaN (by simp;omega)
 have he2:∀(c:Bool) (x y:EVTT),Nat.ble ((bif c then ev++[x] else ev)++[y]).length most=true:=λc x y=>ZaN (by cases c<;>simp<;>omega)
 have hc1:∀x:TC,Nat.ble (cp++[x]).length most=true:=λx=>ZaN (by simp;omega)
 have hc2:∀(c:Bool) (x y:TC),Nat.ble ((bif c then cp++[x] else cp)++[y]).length most=true:=λc x y=>ZaN (by cases c<;>simp<;>omega)
 have hg:Nat.ble (List.length s.1.2.2.1) most=true:=ZaN (by omega);obtain⟨T,hT⟩:∃T,(bif q.2.2.1 then (10:Int) else ZU s.1)=T:=⟨_,rfl⟩;have hT':nowS s q=T:=hT;rcases Y1 it with rfl|⟨it',y,rfl⟩
 ·have hTT:T=1\/T=10:=by
   rw[<-hT,ne rfl];cases q.2.2.1
   ·exact .inl rfl
   ·exact .inr rfl
  have w0:IntKind.wrap .i64 (iN ([]:List ITMT).length-1)= -1:=by decide
  have w1:decide ((-1:Int)>=0)=false:=by decide
  have w2:Ze (-1) ([]:List ITMT).length=false:=by decide
  have hi1:∀x:ITMT,Nat.ble [x].length most=true:=λx=>ZaN (by simp;omega)
  unfold Zed;rcases hTT with rfl|rfl
  ·have e1:((1:Int)==1)=true:=rfl;have e8:((1:Int)==8)=false:=rfl;have e9:((1:Int)==9)=false:=rfl;have e10:((1:Int)==10)=false:=rfl;have e7:((1:Int)==7)=false:=rfl;have n1:((1:Int) !=1)=false:=rfl;simp only[RT.val,d,hin,w,hq,hT,hc.1,hc.2,hf.1,hf.2,hb.1,hb.2,hlc.1,hlc.2,htr,hi1,he1,he2,hc1,hc2,hg,w0,w1,w2,e1,e8,e9,e10,e7,n1,List.nil_append,Zdg,ZbW,Ye,YC,Yg,Yn,Yz,Yq,Yaa,YN,YM,YU,Ya,Yb];unfold Zbv;rw[hT'];simp only[ZbN,Zhb,cycN,e1,e8,e9,e10,e7,n1,Ya,Yb,List.nil_append];rfl
  ·have e1:((10:Int)==1)=false:=rfl;have e8:((10:Int)==8)=false:=rfl;have e9:((10:Int)==9)=false:=rfl;have e10:((10:Int)==10)=true:=rfl;have e7:((10:Int)==7)=false:=rfl;have n1:((4:Int) !=1)=true:=rfl;simp only[RT.val,d,hin,w,hq,hT,hc.1,hc.2,hf.1,hf.2,hb.1,hb.2,hlc.1,hlc.2,htr,hi1,he1,he2,hc1,hc2,hg,w0,w1,w2,e1,e8,e9,e10,e7,n1,List.nil_append,Zdg,ZbW,Ye,YC,Yg,Yn,Yz,Yq,Yaa,YN,YM,YU,Ya,Yb];unfold Zbv;rw[hT'];simp only[ZbN,Zhb,cycN,ZhY,List.getLast?_nil,e1,e8,e9,e10,e7,n1,Ya,Yb,List.nil_append];rfl
 ·simp only[YW] at hit|-;have hlen:it'.length<=1000000:=by simp at hit;omega
  have w0:=Zqj it' y hlen;have w1:decide ((it'.length:Int)>=0)=true:=Yy (by omega);have w2:=λz:ITMT=>Zxo it' z
  have w3:=λz:ITMT=>Zze (r:=Zav) it' z
  have w4:=λz:ITMT=>Zxm it' y z
  have w5:=λz z2:ITMT=>Zxm it' z z2
  have hi1:∀x:ITMT,Nat.ble (it'++[y]++[x]).length most=true:=λx=>ZaN (by simp at hit|-;omega)
  have hj:∀f:ITMT->ITMT,Zcy (it'++[y]) f=it'++[f y]:=Zat it' y;unfold Zed;simp only[RT.val,d,hin,w,hq,hT,hc.1,hc.2,hf.1,hf.2,hb.1,hb.2,hlc.1,hlc.2,htr,hi1,he1,he2,hc1,hc2,hg,w0,w1,w2,w3,w4,w5,List.nil_append,Zdg,ZbW,Ye,YC,Yg,Yn,Yz,Yq,Yaa,YN,YM,YU,Ya,Yb];unfold Zbv;rw[hT'];simp only[ZbN,Zhb,cycN,ZhY,List.getLast?_concat,hj,ZqR,ZpK];cases T==8<;>cases T==9<;>cases T==10<;>rfl
theorem ZBH (c:CORT) (l:LINT) (d:Int):(Zs c l d).2.2.1.length<=c.2.2.1.length+1:=by
 have he:∀(c:TC) (s:Int) (g:List Int) (h:Bool) (l:LINT),(endX c s g h l).2.2.1.length<=g.length:=by
  intro c s g h l;unfold endX;cases (Zg c s g).2
  ·exact Yo _
  ·exact Yd _
 unfold Zs;dsimp only;cases l.2.2.1
 ·cases Z8 c.2.2.2.2.1==1
  ·cases Z8 c.2.2.2.2.1==2||Z8 c.2.2.2.2.1==7
   ·cases Z8 c.2.2.2.2.1==8
    ·cases Z8 c.2.2.2.2.1==9
     ·cases Z8 c.2.2.2.2.1==3
      ·cases decide (Z8 c.2.2.2.2.1<c.2.2.2.1.2.2.2)&& !(Z8 c.2.2.2.2.1==6)
       ·exact Yv (he _ _ _ _ _) (Yax _)
       ·exact Yax _
      ·cases le3 (ZaW (Zf c.1 l) c.2.2.2.1 d).2.2.2
       ·simp only[Ya,Yb,Yf,List.length_singleton];omega
       ·exact Yv (he _ _ _ _ _) (by simp)
     ·cases ZcT (Zf c.1 l) l==0
      ·exact Yo _
      ·exact Yax _
    ·exact Yax _
   ·cases l.1|| !Zm c.2.2.2.1.1<;>exact Yax _
  ·exact Yax _
 ·exact Yo _
theorem Zic (b:BRDT) (s:SYST) (i:INPT):(ZaM b s i).1.1=Zs s.1 (ZbR b (ZA b s i) i) (busS b (ZA b s i) i).2:=by rw[(Ztt b s i).1];show Zs (busS b (ZA b s i) i).1.1 _ _=_;rw[(Zhq b (ZA b s i) i).1];rfl
theorem ZBi (l:List α) (f:α->α):(Zcy l f).length=l.length:=by
 rcases Y1 l with rfl|⟨l',y,rfl⟩
 ·rfl
 ·rw[YW,Zat];simp
theorem ZFP (l:List ITMT) (k:Int) (c:CORT) (n:ITMT):(ZhY l k c n).length<=l.length+1/\ZhY l k c n≠[]:=by
 unfold ZhY;rcases Y1 l with rfl|⟨l',y,rfl⟩
 ·exact⟨by simp,by simp⟩
 ·rw[YW,List.getLast?_concat];dsimp only;cases ZqR y k c
  ·exact⟨by simp,by simp⟩
  ·simp only[Ya];rw[Zat];exact⟨by simp,by simp⟩
theorem ZFQ (l:List ITMT) (c:CORT) (x:TY) (t:Int) (h:l=[]->t=1\/t=10):(ZbN l c x t).length<=l.length+1/\ZbN l c x t≠[]:=by
 have hj:=ZFP l (Zhb t) c (Zhb t,cycN c t x,0,1,Zan c,sodC c);have ho:∀f:ITMT->ITMT,l≠[]->(Zcy l f).length<=l.length+1/\Zcy l f≠[]:=λf hl=>by have:=ZBi l f;refine⟨by omega,λe=>hl ?_⟩;rw[e] at this;exact List.length_eq_zero_iff.1 this.symm
 unfold ZbN;cases hk:Zhb t !=1
 ·cases h1:t==1
  ·have hl:l≠[]:=λe=>by
    rcases h e with rfl|rfl
    ·simp at h1
    ·simp[Zhb] at hk
   cases t==7
   ·exact ho _ hl
   ·exact ho _ hl
  ·exact⟨by simp,by simp⟩
 ·exact hj
theorem ZLw (s:SYST) (i:INPT) (h:ZU s.1=1):nowS s i=1\/nowS s i=10:=by
 unfold nowS;rw[h];cases i.2.2.1
 ·exact .inl rfl
 ·exact .inr rfl
theorem ZLZ (ev:List EVTT) (c:CORT) (l:LINT) (d:Int) (cell:Cell) (moved:Bool):(evE ev c l d cell moved).length<=ev.length+2:=by
 unfold evE;dsimp only;cases l.2.2.1
 ·cases (finS c l d).2<;>cases moved<;>simp
 ·cases Zdu c<;>simp
theorem ZL0 (cp:List TC) (ZV:TC) (c after:CORT) (l:LINT) (d:Int) (moved:Bool):(evC cp ZV c after l d moved).length<=cp.length+2:=by
 unfold evC;dsimp only;cases l.2.2.1
 ·cases (finS c l d).2<;>cases moved<;>simp
 ·cases Zdu c<;>simp
theorem ZHn (b:BRDT) (ZV:TC) (st:STT) (i:INPT) (n:Nat) (h:RunOk b st n):RunOk b (Zbv b ZV st i) (n+1):=by
 have hc:=Ztt b st.1 i;have hi:=ZFQ st.2.2.1 st.1.1 (ZP st.1.1 (nowS st.1 i) (ZaM b st.1 i).2.2.2.1) (nowS st.1 i) (λe=>ZLw st.1 i (h.ne e));refine⟨h.g,?_,?_,?_,?_,?_,?_,?_,?_⟩
 ·have:=h.m;show (ZaM b st.1 i).1.2.1.length<=_;omega
 ·have:=h.o;show (ZaM b st.1 i).1.2.2.2.2.2.length<=_;omega
 ·have:=h.k;show (ZaM b st.1 i).1.1.2.2.1.length<=_;rw[Zic];have:=ZBH st.1.1 (ZbR b (ZA b st.1 i) i) (busS b (ZA b st.1 i) i).2;omega
 ·have:=h.t;show (st.2.1++[_]).length<=_;simp;omega
 ·have:=h.it;exact Yv hi.1 (by omega)
 ·have:=h.ev;exact Yv (ZLZ _ _ _ _ _ _) (by omega)
 ·have:=h.cp;exact Yv (ZL0 _ _ _ _ _ _ _) (by omega)
 ·intro e;exact absurd e hi.2
def Za8 (b:BRDT) (ZV:TC) (st:STT) (l:List INPT):STT:=l.foldl (Zbv b ZV) st
theorem Zwr (b:BRDT) (ZV:TC):∀(l:List INPT) (st:STT) (n:Nat),RunOk b st n->RunOk b (Za8 b ZV st l) (n+l.length)
 |[],st,n,h=>h
 |i::l,st,n,h=>by have:=Zwr b ZV l (Zbv b ZV st i) (n+1) (ZHn b ZV st i n h);rw[show n+(i::l).length=n+1+l.length by simp;omega];exact this
theorem ZCV (l:List α) (d:α) (i:Nat) (h:i<l.length):l.take (i+1)=l.take i++[l.getD i d]:=by rw[List.take_add_one,Yl,Yk h];rfl
theorem ZHi (b:BRDT) (l:List INPT) (r0:RUNT) (s0:SYST) (ZV:TC) (st:STT) (h:RunOk b st 0) (hl:l.length<=70000):
  runF false Zed (λ_=>1000000000000) (l,(l.length:Int),0,b,r0,st.1,s0,ZV,st.2.1,st.2.2.1,st.2.2.2.1,st.2.2.2.2,())=
   some (false,(l,(l.length:Int),(l.length:Int),b,r0,(Za8 b ZV st l).1,s0,ZV,(Za8 b ZV st l).2.1,(Za8 b ZV st l).2.2.1,(Za8 b ZV st l).2.2.2.1,(Za8 b ZV st l).2.2.2.2,())):=by
 obtain⟨r,hr,h1⟩:=Zaj (fl:=false) (t:=Zed) (fuel:=λ_=>1000000000000)
  (λa=>∃i:Nat,i<=l.length/\a=(l,(l.length:Int),(i:Int),b,r0,(Za8 b ZV st (l.take i)).1,s0,ZV,(Za8 b ZV st (l.take i)).2.1,(Za8 b ZV st (l.take i)).2.2.1,(Za8 b ZV st (l.take i)).2.2.2.1,(Za8 b ZV st (l.take i)).2.2.2.2,()))
  (λa=>Int.toNat (a.2.1-a.2.2.1)) (λr=>r=(false,(l,(l.length:Int),(l.length:Int),b,r0,(Za8 b ZV st l).1,s0,ZV,(Za8 b ZV st l).2.1,(Za8 b ZV st l).2.2.1,(Za8 b ZV st l).2.2.2.1,(Za8 b ZV st l).2.2.2.2,())))
  (by
   rintro a ⟨i,hi,rfl⟩;by_cases hlt:i<l.length
   ·left;have hk:=Zwr b ZV (l.take i) st 0 h;have hv:=ZDh b l i r0 s0 ZV (Za8 b ZV st (l.take i)) _ hk hlt (by omega) (by simp;omega);refine⟨_,hv,⟨i+1,hlt,?_⟩,by simp only;omega⟩;have e:Za8 b ZV st (l.take (i+1))=Zbv b ZV (Za8 b ZV st (l.take i)) (R.get ZcE l (i:Int)):=by rw[ZCV l ZcE.Df i hlt];simp only[Za8,List.foldl_append,List.foldl_cons,List.foldl_nil];rfl
    rw[e]
   ·right;left;have e:i=l.length:=by omega
    subst e;have d:decide ((l.length:Int)<(l.length:Int))=false:=Y0 (by omega);rw[List.take_length]
    exact⟨_,by simp only[Zed,RT.val,d,Yb],rfl⟩)
  (l,(l.length:Int),0,b,r0,st.1,s0,ZV,st.2.1,st.2.2.1,st.2.2.2.1,st.2.2.2.2,()) ⟨0,Yo _,rfl⟩ (by simp only;omega)
 rw[h1] at hr;exact hr
def Zby (b:BRDT):STT:=((wNew b).1,[],[],[],[])
def Zae (b:BRDT):TC:=(wNew b).1.1.1
def Ztz:SYST:=((Zzw,0,[],(0,0,0,0),0,false),[],(0,false,false,false,false,0,0,false,false,false,false,false,0,0,0,0,0,0,0,false),(0,0,0),0,[])
theorem Zqn (b:BRDT) (hg:smG b.2.1=true) (hm:smC b.2.2.2.2.2.2=true):Znq b=true:=by
 unfold Znq Zno;simp only[RT.val,hg,hm,Ye,Ya];cases b.1 !=1&&b.1 !=2
 ·cases Zef b.2.1 !=0
  ·cases decide (b.2.2.1<0)||(decide (b.2.2.1>100)|| !vldB b.2.2.2.2.2.2)<;>rfl
  ·rfl
 ·rfl
def newS (b:BRDT):SYST:=((((newX b.1).1.1,(0,0,0,0,0,0,0,(false,false,false,false,false,false,false),0,0),false,false,false,(newX b.1).1.2.2.2.2.2.1,false,false,false,false,false,false,false),0,[],(1,0,0,4),1,false),
 normX b.2.2.2.2.2.2,(0,false,false,false,false,0,0,false,false,false,false,false,0,0,0,0,7,0,0,false),(0,0,0),0,[])
theorem ZKg (b:BRDT) (hg:smG b.2.1=true) (hm:b.2.2.2.2.2.2.length<=100000):ZGP b=true/\(wNew b).2=Zc8 b/\((wNew b).2=0->RunOk b (Zby b) 0/\(wNew b).1.2.1=normX b.2.2.2.2.2.2):=by
 have hc:=smCb (l:=b.2.2.2.2.2.2) (by omega);have hv:(ZtE b).val=some (bif Zc8 b !=0 then (Ztz,Zc8 b) else ((newS b),0)):=by unfold ZtE;simp only[RT.val,Zqn b hg hc,hc,Ya];cases Zc8 b !=0<;>rfl
 refine⟨by simp only[ZGP,hv];rfl,?_,?_⟩
 ·simp only[wNew,hv,getO];cases hx:Zc8 b !=0
  ·simp at hx;exact hx.symm
  ·rfl
 ·intro h0;have hx:(Zc8 b !=0)=false:=by
   cases hx:Zc8 b !=0
   ·rfl
   ·simp only[wNew,hv,getO,hx,Ya] at h0;rw[h0] at hx;simp at hx
  have e:wNew b=((newS b),0):=by simp only[wNew,hv,getO,hx,Yb]
  have hn:=Zdj b.2.2.2.2.2.2;unfold Zby;rw[e];exact⟨⟨hg,by show (normX b.2.2.2.2.2.2).length<=_;omega,Yd _,Yd _,Yd _,Yd _,Yd _,Yd _,λ_=>rfl⟩,rfl⟩
def endS (ZV:TC) (st:STT):RUNT:=
 (st.2.1,st.2.2.1,bif Zdu st.1.1 then st.2.2.2.1++[(7,st.1.1.2.1,st.1.1.2.2.1,ZfY,false,false,false,false,0,0)] else st.2.2.2.1,bif Zdu st.1.1 then st.2.2.2.2++[Zlw ZV st.2.2.2.2] else st.2.2.2.2,st.1)
def Zej (b:BRDT) (l:List INPT):RUNT×Int:=bif (wNew b).2 !=0 then (([],[],[],[],Ztz),(wNew b).2) else (endS (Zae b) (Za8 b (Zae b) (Zby b) l),0)
theorem ZBW (b:BRDT) (l:List Int) (hg:smG b.2.1=true) (hm:b.2.2.2.2.2.2.length<=100000) (hl:l.length<=4000):ZB1 b l=true/\wRun b l=Zej b (ZaC l):=by
 have hms:=mst;have hd:=Zhv l hl;have hn:=ZKg b hg hm;have hv:(ZBX b l).val=some (Zej b (ZaC l)):=by
  unfold ZBX Zej;cases hx:(wNew b).2 !=0
  ·have h0:(wNew b).2=0:=by simpa using hx
   have hi:=(hn.2.2 h0).1;have hf:=Zwr b (Zae b) (ZaC l) (Zby b) 0 hi;have hr:=ZHi b (ZaC l) ([],[],[],[],Ztz) Ztz (Zae b) (Zby b) hi (by omega);have hr':runF false Zed (λ_=>1000000000000) (ZaC l,iN (ZaC l).length,0,b,([],[],[],[],((0,(0,0,0,0,0,0,0,(false,false,false,false,false,false,false),0,0),false,false,false,0,false,false,false,false,false,false,false),0,[],(0,0,0,0),0,false),[],(0,false,false,false,false,0,0,false,false,false,false,false,0,0,0,0,0,0,0,false),(0,0,0),0,[]),(wNew b).1,(((0,(0,0,0,0,0,0,0,(false,false,false,false,false,false,false),0,0),false,false,false,0,false,false,false,false,false,false,false),0,[],(0,0,0,0),0,false),[],(0,false,false,false,false,0,0,false,false,false,false,false,0,0,0,0,0,0,0,false),(0,0,0),0,[]),(wNew b).1.1.1,[],[],[],[],())=some (false,(ZaC l,((ZaC l).length:Int),((ZaC l).length:Int),b,([],[],[],[],Ztz),(Za8 b (Zae b) (Zby b) (ZaC l)).1,Ztz,Zae b,(Za8 b (Zae b) (Zby b) (ZaC l)).2.1,(Za8 b (Zae b) (Zby b) (ZaC l)).2.2.1,(Za8 b (Zae b) (Zby b) (ZaC l)).2.2.2.1,(Za8 b (Zae b) (Zby b) (ZaC l)).2.2.2.2,())):=hr;simp only[RT.val,hn.1,hd.1,hr',hx,okB,getO,Ya,Yb];obtain⟨st,hst⟩:∃st,Za8 b (Zae b) (Zby b) (ZaC l)=st:=⟨_,rfl⟩;rw[hst] at hf|-;have hk:=hf.k;have he:=hf.ev;have hc:=hf.cp;have hdl:=hd.2;have hlc:=Zy7 (Zae b) st.2.2.2.2 (by omega);have b1:Nat.ble (List.length st.1.1.2.2.1) most=true:=ZaN (by omega);have b2:∀x:EVTT,Nat.ble (List.length (st.2.2.2.1++[x])) most=true:=λx=>ZaN (by simp;omega)
   have b3:∀x:TC,Nat.ble (List.length (st.2.2.2.2++[x])) most=true:=λx=>ZaN (by simp;omega)
   simp only[hlc.1,hlc.2,b1,b2,b3,List.nil_append,Ye,Yg,Yn,Ya];unfold endS;cases Zdu st.1.1<;>rfl
  ·simp only[RT.val,hn.1,hx,Ya];rfl
 exact⟨by simp only[ZB1,hv];rfl,by simp only[wRun,hv,getO]⟩
end
end Go.Proofs.YtghoimllhpjkjaaGreat
open Go Go.S3 Go.Proofs
namespace Go.Proofs.YtghoimllhpjkjaaGreat
noncomputable section
def Ztp (k:Int):Bool:=k==1||(k==2||k==3)
def ZyB (c:TC) (e:EVTT):TC:=(c.1,c.2.1,c.2.2.1,c.2.2.2.1,c.2.2.2.2.1,c.2.2.2.2.2.1,e.2.2.2.2.2.1,e.2.2.2.2.1,e.2.2.2.2.2.2.2.1,e.2.2.2.2.2.2.1,c.2.2.2.2.2.2.2.2.2.2)
def ZcO (c:TC) (e:EVTT):TC:=bif Ztp e.1 then finX (ZyB (Zw c e.2.1) e) e.2.1 e.2.2.1 e.2.2.2.1 else bif e.1==4 then ZT c else c
def ZyA (c:TC) (x:TY) (b:Int):TY:=(x.1,x.2.1,bif Za2 x.1 then b else x.2.2.1,bif x.1==1||x.1==8 then ZgR c.1 b else x.2.2.2)
def cyX (c:TC) (s:Int) (g:List Int):List Int->List TY
 |[]=>[]
 |b::r=>bif (Zg c s g).2 then ZyA c (Zg c s g).1 b::cyX c s (g++[b]) r else []
def cycE (k:Int):Bool:=Ztp k||(k==6||k==7)
def Zfb (c:TC) (e:EVTT):List TY:=bif cycE e.1 then cyX (Zw c e.2.1) e.2.1 [] e.2.2.1 else []
def ZqY (c:TC):List EVTT->List TC
 |[]=>[]
 |e::l=>ZcO c e::ZqY (ZcO c e) l
def ZaX (c:TC) (l:List EVTT):TC:=l.foldl ZcO c
end
end Go.Proofs.YtghoimllhpjkjaaGreat
open Go.Proofs.Tryz (prog)
namespace Go.Proofs.YtghoimllhpjkjaaGreat
noncomputable section
abbrev Zaq:R:=R.int u8
abbrev Zar:Nat:=5
abbrev Zhu:List Sh:=[Sh.one (R.sl ZcE)]
def ZtJ:LS:={n:=64,Sl:=[(3,.tip 0),(7,.code (Sh.one (R.sl ZcE))),(8,.code (Sh.one (R.int i64))),(9,.code (Sh.one (R.int i64)))],Bx:=[],Sg:=[⟨(R.int u8),5,false⟩]}
def Zf1 (a:List INPT×Int×Int×List Int×PUnit):RT (Option (Go1 (List INPT×Int×Int×List Int×PUnit))):=
 let x1:INPT:=R.get ZcE a.1 a.2.2.1
 let x2:= !x1.1
 let x3:=Zee x2 0
 let x4:= !x3
 let x5:=x1.2
 let x6:=x5.1
 let x7:=Zee x6 1
 let x8:= !x7
 let x9:=x5.2
 let x10:=x9.1
 let x11:=Zee x10 2
 let x12:= !x11
 let x13:=x9.2
 let x14:=x13.1
 let x15:=Zee x14 3
 let x16:= !x15
 let p2:=x16::x12::x8::x4::[]
 let x17:=x13.2
 let x18:=x17.1
 let x19:=Zee x18 4
 let x20:= !x19
 let p3:=x20::p2
 let x21:=x17.2
 let x22:=x21.1
 let x23:=Zee x22 5
 let x24:= !x23
 let p6:=x24::p3
 let x25:=x21.2
 let x26:=x25.1
 let x27:=Zee x26 6
 let p8:=(!x27)::p6
 let x28:=x25.2
 let x29:=x28.1
 let x30:=orR p8 (Zee x29 7)
 let x31:= !x30
 let x32:=orR p6 x27
 let x33:= !x32
 let p1:=x33::x31::(decide (a.2.2.1>=65536))::(!Ze a.2.2.1 (List.length a.1))::[]
 let x34:=orR p3 x23
 let x35:= !x34
 let p4:=x35::p1
 let x36:=orR p2 x19
 let x37:= !x36
 let p5:=x37::p4
 let x38:=x4||(x8||(x12||x15))
 let x39:= !x38
 let p7:=x39::p5
 let x40:=x4||(x8||x11)
 let x41:= !x40
 let p9:=x41::p7
 let x42:=x4||x7
 let x43:= !x42
 let p10:=x43::p9
 let p11:=x4::p10
 let x44:=orI u8 (orI u8 (orI u8 (orI u8 (orI u8 (orI u8 (orI u8 (wBit x2 0) (wBit x6 1)) (wBit x10 2)) (wBit x14 3)) (wBit x18 4)) (wBit x22 5)) (wBit x26 6)) (wBit x29 7)
 let x45:=x28.2
 let x46:=x45.1
 let x47:=x45.2
 let x48:List Int:=a.2.2.2.1++[x44,x46,x47,Zqx x44 x46 x47]
 .br (decide (a.2.2.1<a.2.1)) (.br (orR p11 (Nat.ble (List.length x48) most)) (.br (orR p10 x3) (.br (orR p9 x42) (.br (orR p7 x40) (.br (orR p5 x38) (.br (orR p4 x36) (.br (orR p1 x34) (.br (!Ze a.2.2.1 (List.length a.1)||(decide (a.2.2.1>=65536)||(x31||x32))) (.br (!Ze a.2.2.1 (List.length a.1)||(decide (a.2.2.1>=65536)||x30)) (.br (Ze a.2.2.1 (List.length a.1)) (.br (decide (a.2.2.1>=65536)) (.Lf (some (Go1.brk (a.1,a.2.1,a.2.2.1,a.2.2.2.1,PUnit.unit)))) (.Lf (some (Go1.cont (a.1,a.2.1,i64.wrap (a.2.2.1+1),x48,PUnit.unit))))) (.Lf none)) (.Lf none)) (.Lf none)) (.Lf none)) (.Lf none)) (.Lf none)) (.Lf none)) (.Lf none)) (.Lf none)) (.Lf none)) (.Lf (some (Go1.brk (a.1,a.2.1,a.2.2.1,a.2.2.2.1,PUnit.unit))))
def Zji:Ora:=Zdo false ZtJ Zf1 (λa=>1000000000000)
theorem Znv:Zb9 (envX prog [(133,ZKl),(134,Zjm)] [] 127 8) (.block 0 (.loop (ZaV Tryz.f70.body 0))) Zji:=
 loopP ⟨ZCk,Zgt,Tv⟩
def ZeG (l:List INPT):RT (Option (List Int)):=
 let x1:=runF false Zf1 (λa=>1000000000000) (l,iN (List.length l),0,[],())
 .br (okB x1) (.Lf (some (getO (false,l,iN (List.length l),0,[],()) x1).2.2.2.2.1)) (.Lf none)
def ZaZ (l:List INPT):List Int:=getO [] (ZeG l).val
def ZeH (l:List INPT):Bool:=okB (ZeG l).val
def Zqs:En:=frzE (newE Zaq Zar Zhu (λa=>some (ZeH a)) (λa=>ZaZ a))
theorem Zqt:Zd prog 70 (newE Zaq Zar Zhu (λa=>some (ZeH a)) (λa=>ZaZ a)):=
 Zi4 (P:=prog) (n:=127) (k:=8) (l:=[(133,ZKl),(134,Zjm)]) (ol:=[(0,Zji)]) ⟨ZCk,Zgt,Tv⟩ Tryz.func70 rfl (by kernel_rfl) Tryz.call70 ⟨Znv,Tv⟩ (r:=Zaq) (T:=Zar) (ts:=Zhu) (t:=λa=>ZeG a) (λa=>by kernel_rfl)
theorem ZtI:Zd prog 70 Zqs:=Zta Zqt
abbrev Zk1:R:=R.Pq (R.sl (R.int i64)) (R.int i64)
abbrev Zsv:List Sh:=[Sh.one (R.int i64)]
abbrev Zk0:Rs:=Rs.one (Sh.one (R.sl (R.int u8)))
def Zfx (s:List Int×Int) (n:Int):RT (Option (List Int×List Int×Int)):=
 let x1:=decide (iN (List.length (Stg.l (newG Zaq Zar (ZaZ (Z1 s n).1))))>0)
 let x2:=x1&&(Zb (Z1 s n).2 4).1==0
 let x3:= !x2
 let x4:List Int:=bif x1 then (Zb (Z1 s n).2 4).2.1 else (Z1 s n).2.1
 let x5:Int:=bif x1 then (Zb (Z1 s n).2 4).2.2 else (Z1 s n).2.2
 let x6:List Int×Int:=(x4,x5)
 let x7:=Zj x6 (iN (List.length (Stg.l (newG Zaq Zar (ZaZ (Z1 s n).1)))))
 let x8:= !x7
 let x9:=Zb x6 (iN (List.length (Stg.l (newG Zaq Zar (ZaZ (Z1 s n).1)))))
 let x10:=x9.1
 let x11:=Ze x10 (List.length (Stg.l (newG Zaq Zar (ZaZ (Z1 s n).1))))
 let x12:= !x11
 let x13:=x9.2
 let x14:=Zj x13 8
 let x15:= !x14
 let p1:=x15::x12::x8::x3::[]
 let x16:=Zb x13 8
 let x17:=x16.1
 let x18:=decide (0<=x17)
 let p2:=(!x18)::p1
 let x19:=x16.2
 .br (!Zg5 s n||ZeH (Z1 s n).1) (.br (Zg5 s n) (.br (!x1||Zj (Z1 s n).2 4) (.br (orR p2 x11) (.br (orR p1 x18) (.br (x3||(x8||(x12||x14))) (.br (x3||(x8||x11)) (.br (x3||x7) (.Lf (some ((bif x2 then setI (Stg.l (newG Zaq Zar (ZaZ (Z1 s n).1))) x10 (xorI u8 (R.get (Stg.r (newG Zaq Zar (ZaZ (Z1 s n).1))) (Stg.l (newG Zaq Zar (ZaZ (Z1 s n).1))) x10) (shlI u8 1 x17)) else Stg.l (newG Zaq Zar (ZaZ (Z1 s n).1)),bif x2 then x19.1 else x4,bif x2 then x19.2 else x5)))) (.Lf none)) (.Lf none)) (.Lf none)) (.Lf none)) (.Lf none)) (.Lf none)) (.Lf none)) (.Lf none)
def Za0 (s:List Int×Int) (n:Int):List Int×List Int×Int:=getO (Zk0.Df,Zk1.Df) (Zfx s n).val
def ZcV (s:List Int×Int) (n:Int):Bool:=okB (Zfx s n).val
def ZyO:En:=boxE Zk1 Zsv Zk0 (λa=>some (ZcV a.1 a.2)) (λa=>Za0 a.1 a.2)
theorem ZBm:Zd prog 64 ZyO:=
 ZbI (P:=prog) (n:=63) (k:=8) (l:=[(46,ZbZ),(70,Zqs),(71,ZyP)]) (ol:=[]) ⟨ZaI,ZtI,ZBo,Tv⟩ Tryz.func64 rfl (by kernel_rfl) Tryz.call64 trivial (rb:=Zk1) (ts:=Zsv) (rs:=Zk0) (t:=λa=>Zfx a.1 a.2) (λa=>by kernel_rfl)
theorem ZGn:Zf1=Zc0:=by funext a;rfl
theorem ZGU (l:List INPT) (hl:l.length<=1000):ZeH l=true/\ZaZ l=Zjj l/\(ZaZ l).length=4*l.length:=by
 have h:=ZzA l hl;have e:ZeG l=Zfg l:=by unfold ZeG Zfg;rw[ZGn]
 have e2:ZaZ l=Zjj l:=by unfold ZaZ Zjj;rw[e];rfl
 refine⟨by unfold ZeH;rw[e];exact h.1,e2,by rw[e2];exact h.2⟩
variable {k:Int}
theorem Zm2 {s:List Int×Int} (h:NB s k) (hk:k<=50000) (n:Nat) (hn:n<=250):
  ZcV s (n:Int)=true/\NB (Za0 s (n:Int)).2 (k+10+30*n)/\(Za0 s (n:Int)).1.length<=4*n/\∃m:Nat,(Za0 s (n:Int)).1.length=4*m:=by
 have hms:=mst;obtain⟨c1,b1,l1⟩:=ZBp h (by omega) n hn;obtain⟨c2,e2,l2⟩:=ZGU (Z1 s (n:Int)).1 (by omega);have hg:∀l:List Int,Stg.l (newG Zaq Zar l)=l:=λ_=>rfl
 have hr:∀l:List Int,Stg.r (newG Zaq Zar l)=R.int .u8:=λ_=>rfl
 obtain⟨L,hL⟩:∃L,L=ZaZ (Z1 s (n:Int)).1:=⟨_,rfl⟩;rw[<-hL] at l2;obtain⟨c3,b3,_⟩:=Zv b1 (by omega) 4 (by decide) (by decide);have b4:NB (bif decide (iN L.length>0) then (Zb (Z1 s (n:Int)).2 4).2.1 else (Z1 s (n:Int)).2.1,bif decide (iN L.length>0) then (Zb (Z1 s (n:Int)).2 4).2.2 else (Z1 s (n:Int)).2.2) (k+3+30*n):=by
  cases decide (iN L.length>0)
  ·exact b1.up (by omega)
  ·exact b3.up (by omega)
 obtain⟨s4,hs4⟩:∃s4:List Int×Int,s4=(bif decide (iN L.length>0) then (Zb (Z1 s (n:Int)).2 4).2.1 else (Z1 s (n:Int)).2.1,bif decide (iN L.length>0) then (Zb (Z1 s (n:Int)).2 4).2.2 else (Z1 s (n:Int)).2.2):=⟨_,rfl⟩;rw[<-hs4] at b4;have hv:∃l s',(Zfx s (n:Int)).val=some (l,s')/\NB s' (k+10+30*n)/\l.length=L.length:=by
  by_cases hz:0<L.length
  ·have d:decide (iN L.length>0)=true:=Yy (by simp only[iN];omega);obtain⟨c5,b5,d0,d1⟩:=Zv b4 (by omega) (iN L.length) (by simp only[iN];omega) (by simp only[iN];omega);obtain⟨c6,b6,f0,f1⟩:=Zv b5 (by omega) 8 (by decide) (by decide);have r5:Ze (Zb s4 (iN L.length)).1 L.length=true:=ZB.2 ⟨d0,by simpa [iN] using d1⟩;have e6:decide (0<=(Zb (Zb s4 (iN L.length)).2 8).1)=true:=Yy f0;rw[d] at hs4;simp only[Ya] at hs4;unfold Zfx;simp only[RT.val,hg,hr,<-hL,c1,c2,d,c3,<-hs4,c5,r5,c6,e6,Zdg,ZbW,YM,Yg,Ye,Yn,Ya];cases (Zb (Z1 s (n:Int)).2 4).1==0
   ·exact⟨_,_,rfl,b3.up (by omega),rfl⟩
   ·exact⟨_,_,rfl,b6.up (by omega),by simp only[Ya,setI,Yak]⟩
  ·have d:decide (iN L.length>0)=false:=Y0 (by simp only[iN];omega);rw[d] at hs4;simp only[Yb] at hs4;unfold Zfx;simp only[RT.val,hg,hr,<-hL,c1,c2,d,Zdg,ZbW,YN,Yg,Yq,YC,Ye,Yn,Ya,Yb];exact⟨_,_,rfl,b1.up (by omega),rfl⟩
 obtain⟨l,s',hv,h1,h2⟩:=hv;simp only[ZcV,Za0,hv,okB,getO];exact⟨trivial,h1,by omega,(Z1 s (n:Int)).1.length,by omega⟩
def ZLG (b:BRDT):RT TC:=
 let x1:TR:=(0,0,0,0,0,0,0,(false,false,false,false,false,false,false),0,0)
 let x2:=ZT (b.1,x1,false,false,false,0,false,false,false,false,false,false,false)
 .Lf ((x2.1,x1,false,false,false,x2.2.2.2.2.2.1,false,false,false,false,false,false,false))
def ZFK (b:BRDT):TC:=(ZLG b).val
abbrev ZLH:Rs:=Rs.tup [Sh.agg (R.Pq (R.int i64) (R.Pq rcRG (R.Pq (R.int i64) (R.Pq (R.int u8) (R.Pq (R.int u8) (R.Pq R.bool rcCE)))))),Sh.agg (R.Pq (R.sl ZcS) (R.Pq (R.sl Zav) (R.Pq (R.sl ZzT) (R.Pq (R.sl ZW) (R.Pq (R.Pq ZW (R.Pq (R.int i64) (R.Pq (R.sl (R.int u8)) (R.Pq (RY) (R.Pq (R.int i64) R.bool))))) (R.Pq rcCE (R.Pq ZaH (R.Pq (R.Pq (R.int u16) (R.Pq (R.int u8) (R.int i64))) (R.Pq (R.int i64) (R.sl (R.Pq (R.int u8) (R.int u8))))))))))))]
def Zza (n:List Int) (h:Bool):RT (Option (BRDT×RUNT)):=
 let x1:BRDT:=((ZF (n,0)).1.1,(ZF (n,0)).1.2.1,(ZF (n,0)).1.2.2.1,(ZF (n,0)).1.2.2.2.1,bif !h then 240 else (ZF (n,0)).1.2.2.2.2.1,(ZF (n,0)).1.2.2.2.2.2)
 .br (ZhU (n,0)) (.br (!ZcV (ZF (n,0)).2 90||ZB1 x1 (Za0 (ZF (n,0)).2 90).1) (.br (ZcV (ZF (n,0)).2 90) (.Lf (some ((x1,(wRun x1 (Za0 (ZF (n,0)).2 90).1).1)))) (.Lf none)) (.Lf none)) (.Lf none)
def ZM9 (n:List Int) (h:Bool):BRDT×RUNT:=getO ZLH.Df (Zza n h).val
def ZJ1 (n:List Int) (h:Bool):Bool:=okB (Zza n h).val
theorem ZbG (e:EVTT) (c:TC) (l:LINT):ZeE e c l=(e.1,e.2.1,e.2.2.1,l,c.2.2.2.2.2.2.2.1,c.2.2.2.2.2.2.1,c.2.2.2.2.2.2.2.2.2.1,c.2.2.2.2.2.2.2.2.1,e.2.2.2.2.2.2.2.2):=rfl
def EvB (ev:List EVTT) (n:Nat):Prop:=∀e∈ev,e.2.2.1.length<=n
variable {ev:List EVTT} {n:Nat}
theorem EvB.app (h:EvB ev n) {e:EVTT} (he:e.2.2.1.length<=n):EvB (ev++[e]) n:=λx hx=>by
 rcases Y9.1 hx with hx|hx
 ·exact h x hx
 ·rw[Y7] at hx;subst hx;exact he
theorem EvB.mono {m:Nat} (h:EvB ev n) (hn:n<=m):EvB ev m:=λe he=>Yv (h e he) hn
def brdK (n:List Int) (h:Bool):BRDT:=((ZF (n,0)).1.1,(ZF (n,0)).1.2.1,(ZF (n,0)).1.2.2.1,(ZF (n,0)).1.2.2.2.1,(bif !h then 240 else (ZF (n,0)).1.2.2.2.2.1),(ZF (n,0)).1.2.2.2.2.2)
def scrK (n:List Int):List INPT:=ZaC (Za0 (ZF (n,0)).2 90).1
theorem ZKC (n:List Int) (h:Bool):ZJ1 n h=true/\ZM9 n h=(brdK n h,(Zej (brdK n h) (scrK n)).1)/\smG (brdK n h).2.1=true/\(brdK n h).2.2.2.2.2.2.length<=200/\(scrK n).length<=90/\((brdK n h).1=1\/(brdK n h).1=2):=by
 obtain⟨c1,b1,⟨s1,bs1,hr⟩,hch,_,l,hl,hi⟩:=ZsD (ZGd n) (by omega);obtain⟨c2,_,l2⟩:=ZFg bs1 (by omega);obtain⟨c3,b3,l3,_⟩:=Zm2 b1 (by omega) 90 (by omega);have hg:smG (brdK n h).2.1=true:=by show smG (ZF (n,0)).1.2.1=true;rw[hr];exact smGb (by omega)
 have hm:(brdK n h).2.2.2.2.2.2.length<=200:=by show (ZF (n,0)).1.2.2.2.2.2.2.length<=200;rw[hi];exact Yv (Zdj l) hl
 have hd:=(Zhv (Za0 (ZF (n,0)).2 90).1 (by have:(Za0 (ZF (n,0)).2 90).1.length<=4*90:=l3;omega)).2;have hsl:(scrK n).length<=90:=by unfold scrK;rw[hd];have:(Za0 (ZF (n,0)).2 90).1.length<=4*90:=l3;omega
 obtain⟨w1,w2⟩:=ZBW (brdK n h) (Za0 (ZF (n,0)).2 90).1 hg (by omega) (by have:(Za0 (ZF (n,0)).2 90).1.length<=4*90:=l3;omega);have c3':ZcV (ZF (n,0)).2 90=true:=c3;have hv:(Zza n h).val=some (brdK n h,(Zej (brdK n h) (scrK n)).1):=by have e:((ZF (n,0)).1.1,(ZF (n,0)).1.2.1,(ZF (n,0)).1.2.2.1,(ZF (n,0)).1.2.2.2.1,(bif !h then 240 else (ZF (n,0)).1.2.2.2.2.1),(ZF (n,0)).1.2.2.2.2.2)=brdK n h:=rfl;simp only[Zza,RT.val,c1,c3',e,w1,w2,Ye,Ya];rfl
 exact⟨by simp only[ZJ1,hv];rfl,by simp only[ZM9,hv,getO],hg,hm,hsl,hch⟩
def cyA:TC->List EVTT->List TY
 |_,[]=>[]
 |c,e::l=>Zfb c e++cyA (ZcO c e) l
theorem Ze2 (c:TC) (l:List EVTT) (e:EVTT):ZaX c (l++[e])=ZcO (ZaX c l) e:=by unfold ZaX;rw[List.foldl_append];rfl
theorem ZlT:∀(l:List EVTT) (c:TC) (e:EVTT),cyA c (l++[e])=cyA c l++Zfb (ZaX c l) e
 |[],c,e=>by simp[cyA,ZaX]
 |x::l,c,e=>by have:=ZlT l (ZcO c x) e;simp only[List.cons_append,cyA,this,YF];rfl
theorem ZdV:∀(l:List EVTT) (c:TC) (e:EVTT),ZqY c (l++[e])=ZqY c l++[ZcO (ZaX c l) e]
 |[],c,e=>rfl
 |x::l,c,e=>by have:=ZdV l (ZcO c x) e;simp only[List.cons_append,ZqY,this];rfl
theorem Zm7 (c:TC) (l:List EVTT):Zlw c (ZqY c l)=ZaX c l:=by
 rcases Y1 l with rfl|⟨l',e,rfl⟩
 ·rfl
 ·rw[YW,ZdV,Ze2];simp[Zlw]
def cyI (l:List ITMT):List TY:=(l.filter λy=>y.1==1&&decide (y.2.2.2.1>=3)).map λy=>y.2.1
theorem ZdM (l:List ITMT) (y:ITMT):cyI (l++[y])=cyI l++(bif y.1==1&&decide (y.2.2.2.1>=3) then [y.2.1] else []):=by unfold cyI;rw[List.filter_append,List.map_append];cases h:y.1==1&&decide (y.2.2.2.1>=3)<;>simp[List.filter,h]
def unl (c:TC):Int×(Int×Int×Int×Int×Int×Int×Int×(Bool×Bool×Bool×Bool×Bool×Bool×Bool)×Int×Int)×Bool×Bool×Bool×Int×Bool×Bool×Bool:=(c.1,c.2.1,c.2.2.1,c.2.2.2.1,c.2.2.2.2.1,c.2.2.2.2.2.1,c.2.2.2.2.2.2.2.2.2.2)
theorem ZqL (c:TC) (l:LINT):unl (Zf c l)=unl c:=by unfold Zf Zvo;simp only[RT.val];cases !rOn c.1<;>rfl
theorem ZIM (c:TC):Zw c 0=c:=rfl
variable {a b:TC}
theorem ZKz (h:unl a=unl b) (s:Int):unl (Zw a s)=unl (Zw b s):=by
 unfold Zw ZiZ;simp only[RT.val];cases decide (s<1)||decide (s>5)
 ·simp only[unl,pinj] at h|-;obtain⟨h1,h2,h3,h4,h5,h6,h7⟩:=h;simp only[h1,h2,h3,h4,h5,h6,h7,and_self];simp only[Yb,unl,h1,h2,h3,h4,h5,h6,h7,and_self]
 ·exact h
theorem ZDj (h1:a.1=b.1) (h2:a.2.1=b.2.1):ZT a=ZT b:=by unfold ZT ZjT;simp only[RT.val,h1,h2]
theorem Zqg (c:TC) (s:Int):(Zw c s).1=c.1/\(Zw c s).2.1=c.2.1:=by unfold Zw ZiZ;simp only[RT.val];cases decide (s<1)||decide (s>5)<;>exact⟨rfl,rfl⟩
theorem ZnK (h:unl a=unl b):a.1=b.1/\a.2.1=b.2.1:=by simp only[unl,pinj] at h;exact⟨h.1,h.2.1⟩
theorem ZIK (h1:a.1=b.1) (h2:a.2.1=b.2.1) (inj:Bool) (g:List Int) (i:InsT):Zfd a inj g i=Zfd b inj g i:=by unfold Zfd Zbw ZaQ opC ZbT popX ZO Zc7 Ze3 Zeb pcOf spOf;simp only[h1,h2]
theorem ZyM (h:unl a=unl b) (s:Int) (g:List Int):Zg a s g=Zg b s g:=by
 obtain⟨h1,h2⟩:=ZnK h;have hp:ZdK a s g=ZdK b s g:=by
  unfold ZdK pcOf ZbT spOf;simp only[h1,h2];cases Za s
  ·cases g with
   |nil=>rfl
   |cons o g=>simp only[Yb,ZIK h1 h2]
  ·rfl
 unfold Zg;rw[hp]
theorem Zi3 (c:TC) (s:Int):(Zg c s []).2=true:=by unfold Zg ZdK pick;cases Za s<;>rfl
variable {p q:TC}
theorem Zwg (h:unl p=unl q) (e:EVTT) (he:e.2.2.2.2.1=q.2.2.2.2.2.2.2.1/\e.2.2.2.2.2.1=q.2.2.2.2.2.2.1/\e.2.2.2.2.2.2.1=q.2.2.2.2.2.2.2.2.2.1/\e.2.2.2.2.2.2.2.1=q.2.2.2.2.2.2.2.2.1):ZyB p e=q:=by obtain⟨e1,e2,e3,e4⟩:=he;simp only[unl,pinj] at h;obtain⟨h1,h2,h3,h4,h5,h6,h7⟩:=h;unfold ZyB;rw[e1,e2,e3,e4,h1,h2,h3,h4,h5,h6,h7]
theorem ZGz (c:TC) (s:Int):∀(r g:List Int) (b:Int),(cyX c s g r).length=r.length->(Zg c s (g++r)).2=true->cyX c s g (r++[b])=cyX c s g r++[ZyA c (Zg c s (g++r)).1 b]/\(cyX c s g (r++[b])).length=(r++[b]).length
 |[],g,b,_,h=>by rw[YQ] at h|-;simp only[List.nil_append,cyX,h,Ya,List.length_cons,List.length_nil,and_self]
 |x::r,g,b,hl,h=>by
  simp only[List.cons_append,cyX] at hl|-;cases hn:(Zg c s g).2
  ·rw[hn] at hl;simp at hl
  ·rw[hn] at hl;simp only[Ya,List.length_cons] at hl|-;have h':(Zg c s (g++[x]++r)).2=true:=by rw[YF];exact h
   obtain⟨q1,q2⟩:=ZGz c s r (g++[x]) b (by omega) h';rw[q1] at q2|-;rw[YF] at q2|-;exact⟨rfl,by simpa using q2⟩
structure Sem (s0:TC) (c:CORT) (ev:List EVTT) (cp:List TC) (it:List ITMT):Prop where
 hcp:cp=ZqY s0 ev
 un:unl c.1=unl (Zw (ZaX s0 ev) c.2.1)
 nx:1<=c.2.2.2.2.1/\c.2.2.2.2.1<=9
 rest:c.2.1=0->c.1.2.2.2.2.1=true->(c.2.2.2.2.1=8\/c.2.2.2.2.1=9)/\c.2.2.1=[]
 nine:c.2.2.2.2.1=9->c.2.1=0/\c.1.2.2.2.2.1=true
 cy:(c.2.2.2.2.1<4\/6<c.2.2.2.2.1)->c.2.2.2.1=(Zg c.1 c.2.1 c.2.2.1).1/\(Zg c.1 c.2.1 c.2.2.1).2=true
 hit:cyI it=cyA s0 ev++cyX (Zw (ZaX s0 ev) c.2.1) c.2.1 [] c.2.2.1
 ln:(cyX (Zw (ZaX s0 ev) c.2.1) c.2.1 [] c.2.2.1).length=c.2.2.1.length
 pt:(c.2.2.2.2.1=2\/c.2.2.2.2.1=3\/c.2.2.2.2.1=7)->∃(l:List ITMT) (y:ITMT),it=l++[y]/\y.1=1/\y.2.2.2.1=(bif c.2.2.2.2.1==2 then 1 else 2)
 ps:4<=c.2.2.2.2.1->c.2.2.2.2.1<=6->∃(l:List ITMT) (y:ITMT),it=l++[y]/\y.1=1/\y.2.2.2.1=c.2.2.2.2.1-1/\y.2.1=c.2.2.2.1
theorem ZKy (h:unl a=unl b):a.2.2.2.2.1=b.2.2.2.2.1:=by simp only[unl,pinj] at h;exact h.2.2.2.2.1
theorem Zd6 (c:TC) (s:Int) (h:Bool):(idlX c s h=8\/idlX c s h=9\/idlX c s h=1)/\(idlX c s h=9->s=0/\c.2.2.2.2.1=true)/\(s=0->c.2.2.2.2.1=true->idlX c s h=8\/idlX c s h=9):=by
 unfold idlX;cases h
 ·cases hh:c.2.2.2.2.1&&s==0
  ·simp only[Yb];refine⟨.inr (.inr trivial),λe=>by omega,λe1 e2=> ?_⟩;rw[e1,e2] at hh;simp at hh
  ·simp only[Ya,Yb];simp at hh;exact⟨.inr (.inl trivial),λ_=>⟨hh.2,hh.1⟩,λ_ _=>.inr trivial⟩
 ·simp only[Ya];exact⟨.inl trivial,λe=>by omega,λ_ _=>.inl trivial⟩
variable {s0:TC} {c:CORT} {cp:List TC} {it:List ITMT}
theorem ZHf (h:Sem s0 c ev cp it) (e:EVTT) (h1:ZcO (ZaX s0 ev) e=ZaX s0 ev) (h2:Zfb (ZaX s0 ev) e=[]):
  Sem s0 c (ev++[e]) (cp++[Zlw s0 cp]) it:=by
 have hl:ZaX s0 (ev++[e])=ZaX s0 ev:=by rw[Ze2,h1]
 refine⟨by rw[h.hcp,ZdV,Zm7,h1],by rw[hl];exact h.un,h.nx,h.rest,h.nine,h.cy,by rw[hl,ZlT,h2,YQ];exact h.hit,by rw[hl];exact h.ln,h.pt,h.ps⟩
theorem ZsV (s:Int):Ztp (Zjg s)=true:=by
 unfold Zjg ZB6 Ztp;simp only[RT.val];cases Za s
 ·cases s==5<;>rfl
 ·rfl
theorem ZC7 (p:TC) (s:Int) (g:List Int) (h:Bool) (l:LINT) (hcp:cp=ZqY s0 ev) (un:unl p=unl (Zw (ZaX s0 ev) s)) (hh:s=0->p.2.2.2.2.1=true->False)
  (hit:cyI it=cyA s0 ev++cyX (Zw (ZaX s0 ev) s) s [] g) (ln:(cyX (Zw (ZaX s0 ev) s) s [] g).length=g.length):
  Sem s0 (endX p s g h l) (bif (Zg p s g).2 then ev else ev++[ZeE (Zjg s,s,g,ZfY,false,false,false,false,0,0) p l]) (bif (Zg p s g).2 then cp else cp++[finX p s g l]) it:=by
 unfold endX;dsimp only;cases hn:(Zg p s g).2
 ·simp only[Yb];generalize hq:finX p s g l=q;generalize ZcT q l=k;generalize he:ZeE (Zjg s,s,g,ZfY,false,false,false,false,0,0) p l=e;have hpat:ZyB (Zw (ZaX s0 ev) s) e=p:=Zwg un.symm e (by rw[<-he,ZbG];exact⟨rfl,rfl,rfl,rfl⟩);have ha:ZcO (ZaX s0 ev) e=q:=by
   have e1:e.1=Zjg s:=by rw[<-he,ZbG]
   have e2:e.2.1=s:=by rw[<-he,ZbG]
   have e3:e.2.2.1=g:=by rw[<-he,ZbG]
   have e4:e.2.2.2.1=l:=by rw[<-he,ZbG]
   unfold ZcO;rw[e1,ZsV,e2,hpat,e3,e4];exact hq
  have hc:Zfb (ZaX s0 ev) e=cyX (Zw (ZaX s0 ev) s) s [] g:=by
   have e1:e.1=Zjg s:=by rw[<-he,ZbG]
   have e2:e.2.1=s:=by rw[<-he,ZbG]
   have e3:e.2.2.1=g:=by rw[<-he,ZbG]
   unfold Zfb cycE;rw[e1,ZsV,e2,e3];rfl
  have hl:ZaX s0 (ev++[e])=q:=by rw[Ze2,ha]
  obtain⟨i1,i2,i3⟩:=Zd6 (Zw q k) k h;refine⟨by rw[hcp,ZdV,ha],by rw[hl],?_,λa b=>⟨i3 a b,rfl⟩,i2,λ_=>⟨rfl,Zi3 _ _⟩,?_,by rw[hl];rfl,λe=> ?_,λe1 e2=> ?_⟩
  ·show 1<=idlX (Zw q k) k h/\idlX (Zw q k) k h<=9;omega
  ·rw[hl,ZlT,hc,hit];show _=_++[];rw[YQ]
  ·exfalso;replace e:idlX (Zw q k) k h=2\/idlX (Zw q k) k h=3\/idlX (Zw q k) k h=7:=e;omega
  ·exfalso;replace e1:4<=idlX (Zw q k) k h:=e1;replace e2:idlX (Zw q k) k h<=6:=e2;omega
 ·simp only[Ya];obtain⟨i1,i2,i3⟩:=Zd6 p s h;refine⟨hcp,un,?_,λa b=>(hh a b).elim,λe=>((hh (i2 e).1 (i2 e).2)).elim,λ_=>⟨rfl,hn⟩,hit,ln,λe=> ?_,λe1 e2=> ?_⟩
  ·show 1<=idlX p s h/\idlX p s h<=9;omega
  ·exfalso;replace e:idlX p s h=2\/idlX p s h=3\/idlX p s h=7:=e;omega
  ·exfalso;replace e1:4<=idlX p s h:=e1;replace e2:idlX p s h<=6:=e2;omega
theorem ZlS {l:List ITMT} {n:ITMT} (hk:k≠1) (hn:n.1=k):cyI (ZhY l k c n)=cyI l:=by
 have h1:∀y:ITMT,y.1=k->∀l,cyI (l++[y])=cyI l:=λy hy l=>by
  rw[ZdM];have:(y.1==1)=false:=by rw[hy];simpa using hk
  rw[this];simp
 unfold ZhY;cases hl:l.getLast? with
 |none=>exact h1 n hn l
 |some y=>
  simp only;obtain⟨l',rfl⟩:∃l',l=l'++[y]:=by
   rcases Y1 l with rfl|⟨l',z,rfl⟩
   ·simp at hl
   ·rw[YW] at hl|-;simp at hl;subst hl;exact⟨l',rfl⟩
  cases hs:ZqR y k c
  ·exact h1 n hn _
  ·have hy:y.1=k:=by simp[ZqR] at hs;exact hs.1
   simp only[Ya,Zat];rw[h1 (ZpK y) hy,h1 y hy]
theorem Ziz (c:CORT) (t d:Int) (h:(t==3)=false):ZP c t d=c.2.2.2.1:=by unfold ZP Zgr;simp only[RT.val,h,Yb]
theorem ZNk (c:CORT) (d:Int) (p:TC) (h:p.1=c.1.1):ZP c 3 d=ZaW p c.2.2.2.1 d:=by unfold ZP Zgr ZaW;rw[h];rfl
theorem Zq0 (h:p.1=q.1) (x:TY) (d:Int):ZaW p x d=ZaW q x d:=by unfold ZaW;rw[h]
theorem ZBb (p a:TC) (h:a.1=p.1) (x:TY) (d:Int):ZyA a x (ZaW p x d).2.2.1=ZaW p x d:=by unfold ZyA ZaW;rw[h];cases Za2 x.1<;>rfl
theorem ZIB (ev:List EVTT) (c:CORT) (l:LINT) (d:Int) (cell:Cell) (hr:l.2.2.1=false):evE ev c l d cell false=bif (finS c l d).2 then ev++[ZeE (Zjg c.2.1,c.2.1,ZfV c (ZU c) d,ZfY,false,false,false,false,0,0) (Zf c.1 l) l] else ev:=by unfold evE;rw[hr];rfl
theorem ZIC (cp:List TC) (s0:TC) (c a:CORT) (l:LINT) (d:Int) (hr:l.2.2.1=false):evC cp s0 c a l d false=bif (finS c l d).2 then cp++[(finS c l d).1] else cp:=by unfold evC;rw[hr];rfl
theorem itN (y:ITMT) (n:Int) (h:y.2.2.2.1=n) (h1:0<=n) (h2:n<=100):IntKind.wrap .i64 (y.2.2.2.1+1)=n+1:=by rw[h,Zq _ (by omega) (by omega)]
theorem ZHg (h:Sem s0 c ev cp it) (l:LINT) (d:Int) (cell:Cell) (hr:l.2.2.1=false):
  Sem s0 (Zs c l d) (evE ev c l d cell false) (evC cp s0 c (Zs c l d) l d false) (ZbN it c (ZP c (ZU c) d) (ZU c)):=by
 rw[ZIB _ _ _ _ _ hr,ZIC _ _ _ _ _ _ hr];obtain⟨hcp,un,nx,rest,nine,cy,hit,ln,pt,ps⟩:=h;obtain⟨p0,s,g,x,n,hd⟩:=c;simp only at un nx rest nine cy hit ln pt ps;have hst:ZU (p0,s,g,x,n,hd)=n:=by
  have h1:(decide (n<1)||decide (n>9))=false:=by simp;omega
  simp only[ZU,Zn5,RT.val,h1,Yb]
 have hsx:Z8 n=n:=by
  have h1:(decide (n<1)||decide (n>9))=false:=by simp;omega
  simp only[Z8,h1,Yb]
 have hup:=ZqL p0 l;have hchip:(Zf p0 l).1=p0.1:=(ZnK hup).1;have hun:unl (Zf p0 l)=unl (Zw (ZaX s0 ev) s):=hup.trans un;have hhl:(Zf p0 l).2.2.2.2.1=p0.2.2.2.2.1:=ZKy hup;have hnxt:∀g,Zg (Zf p0 l) s g=Zg p0 s g:=λg=>ZyM hup s g
 rw[hst];have hcases:n=1\/n=2\/n=3\/n=4\/n=5\/n=6\/n=7\/n=8\/n=9:=by omega
 have hnf:∀k:Int,n=k->ZhI k x=false->(k==3)=false->(finS (p0,s,g,x,n,hd) l d).2=false:=λk hk he h3=>by
  unfold finS rdS;have:(n !=3)=true:=by rw[hk];simpa [bne] using h3
  simp only[hr,this,hk▸he,Ya,Yb,Yq]
 have sem456:∀k:Int,(k=4\/k=5\/k=6)->n=k->Sem s0 (Zs (p0,s,g,x,n,hd) l d) (bif (finS (p0,s,g,x,n,hd) l d).2 then ev++[ZeE (Zjg s,s,ZfV (p0,s,g,x,n,hd) n d,ZfY,false,false,false,false,0,0) (Zf p0 l) l] else ev)
   (bif (finS (p0,s,g,x,n,hd) l d).2 then cp++[(finS (p0,s,g,x,n,hd) l d).1] else cp) (ZbN it (p0,s,g,x,n,hd) (ZP (p0,s,g,x,n,hd) n d) n):=by
  intro k hk e;subst e;obtain⟨l',y,rfl,y1,yN,yc⟩:=ps (by rcases hk with rfl|rfl|rfl<;>decide) (by rcases hk with rfl|rfl|rfl<;>decide);clear pt ps;have b1:(n==1)=false:=by rcases hk with rfl|rfl|rfl<;>rfl
  have b2:(n==2)=false:=by rcases hk with rfl|rfl|rfl<;>rfl
  have b3:(n==3)=false:=by rcases hk with rfl|rfl|rfl<;>rfl
  have b7:(n==7)=false:=by rcases hk with rfl|rfl|rfl<;>rfl
  have b8:(n==8)=false:=by rcases hk with rfl|rfl|rfl<;>rfl
  have b9:(n==9)=false:=by rcases hk with rfl|rfl|rfl<;>rfl
  have b10:(n==10)=false:=by rcases hk with rfl|rfl|rfl<;>rfl
  have b3':(n !=3)=true:=by rcases hk with rfl|rfl|rfl<;>rfl
  have hi:ZbN (l'++[y]) (p0,s,g,x,n,hd) (ZP (p0,s,g,x,n,hd) n d) n=l'++[(y.1,x,y.2.2.1,n,y.2.2.2.2)]:=by
   rw[Ziz _ _ _ b3];have hkn:Zhb n=1:=by unfold Zhb;simp only[b8,b9,b10,Yb]
   have hcn:cycN (p0,s,g,x,n,hd) n x=x:=by unfold cycN;simp only[b8,b9,b10,Yb]
   unfold ZbN;simp only[hkn,hcn,b1,b7];show Zcy (l'++[y]) _=_;rw[Zat,itN y (n-1) yN (by omega) (by omega)];simp
  rw[hi];have hit':cyI (l'++[(y.1,x,y.2.2.1,n,y.2.2.2.2)])=cyA s0 ev++cyX (Zw (ZaX s0 ev) s) s [] g:=by rw[<-hit,ZdM,ZdM];have q1:decide (n>=3)=true:=Yy (by omega);have q2:decide (y.2.2.2.1>=3)=true:=Yy (by omega);simp only[y1,q1,q2,yc]
  have hno:s=0->(Zf p0 l).2.2.2.2.1=true->False:=λa b=>by have:=rest a (by rw[<-hhl];exact b);omega
  have hby:ZfV (p0,s,g,x,n,hd) n d=g:=by unfold ZfV;simp only[b3,Yb]
  have hrd:rdS (p0,s,g,x,n,hd) n d=(x,g):=by unfold rdS;simp only[b3',Ya]
  have hen:ZhI n x= !(decide (n<x.2.2.2)&& !(n==6)):=by
   unfold ZhI ZkI;rcases hk with rfl|rfl|rfl
   ·by_cases q:(4:Int)<x.2.2.2
    ·have q1:decide (x.2.2.2<=4)=false:=Y0 (by omega);have q2:decide ((4:Int)<x.2.2.2)=true:=Yy q;simp only[RT.val,q2];exact q1
    ·have q1:decide (x.2.2.2<=4)=true:=Yy (by omega);have q2:decide ((4:Int)<x.2.2.2)=false:=Y0 q;simp only[RT.val,q2];exact q1
   ·by_cases q:(5:Int)<x.2.2.2
    ·have q1:decide (x.2.2.2<=5)=false:=Y0 (by omega);have q2:decide ((5:Int)<x.2.2.2)=true:=Yy q;simp only[RT.val,q2];exact q1
    ·have q1:decide (x.2.2.2<=5)=true:=Yy (by omega);have q2:decide ((5:Int)<x.2.2.2)=false:=Y0 q;simp only[RT.val,q2];exact q1
   ·cases decide ((6:Int)<x.2.2.2)<;>rfl
  have hclk:Zs (p0,s,g,x,n,hd) l d=bif decide (n<x.2.2.2)&& !(n==6) then (Zf p0 l,s,g,x,n+1,hd) else endX (Zf p0 l) s g hd l:=by unfold Zs;simp only[hr,hsx,b1,b2,b3,b7,b8,b9,Yaa,Yb]
  cases hle:decide (n<x.2.2.2)&& !(n==6)
  ·have hck:Zs (p0,s,g,x,n,hd) l d=endX (Zf p0 l) s g hd l:=by rw[hclk,hle];rfl
   have hf:finS (p0,s,g,x,n,hd) l d=bif (Zg (Zf p0 l) s g).2 then (Zzw,false) else (finX (Zf p0 l) s g l,true):=by unfold finS;simp only[hr,hrd,hen,hle,Ya,Yb,Yg,Yq]
   have:=ZC7 (Zf p0 l) s g hd l hcp hun hno hit' ln;rw[hck,hf,hby];cases hn:(Zg (Zf p0 l) s g).2
   ·rw[hn] at this;exact this
   ·rw[hn] at this;exact this
  ·have hf:(finS (p0,s,g,x,n,hd) l d).2=false:=by unfold finS;simp only[hr,hrd,hen,hle,Ya,Yb,Yg,Yq]
   have hck:Zs (p0,s,g,x,n,hd) l d=(Zf p0 l,s,g,x,n+1,hd):=by rw[hclk,hle];rfl
   have h6:n≠6:=by simp at hle;exact hle.2
   rw[hck,hf];refine⟨hcp,hun,by show 1<=n+1/\n+1<=9;omega,λa b=>(hno a b).elim,λe=>by replace e:n+1=9:=e;omega,λe=>by replace e:n+1<4\/6<n+1:=e;omega,hit',ln,λe=>by replace e:n+1=2\/n+1=3\/n+1=7:=e;omega,λ_ _=>⟨l',_,rfl,y1,?_,rfl⟩⟩;show n=n+1-1;omega
 rcases hcases with e|e|e|e|e|e|e|e|e
 ·--T1
  subst e;rw[hnf 1 rfl rfl rfl];have hck:Zs (p0,s,g,x,1,hd) l d=(Zf p0 l,s,g,x,2,hd):=by unfold Zs;simp only[hr,hsx];rfl
  rw[hck,Ziz _ _ _ rfl];refine⟨hcp,hun,⟨(by decide:(1:Int)<=2),(by decide:(2:Int)<=9)⟩,λa b=> ?_,λe=>by simp at e,λ_=>by rw[hnxt];exact cy (by omega),?_,ln,λ_=>⟨it,_,rfl,rfl,rfl⟩,λe=>by simp at e⟩
  ·have:=rest a (by rw[<-hhl];exact b);omega
  ·show cyI (it++[_])=_;rw[ZdM];show cyI it++[]=_;rw[YQ];exact hit
 ·--T2
  subst e;rw[hnf 2 rfl rfl rfl];obtain⟨l',y,rfl,y1,yN⟩:=pt (.inl rfl);have hi:ZbN (l'++[y]) (p0,s,g,x,2,hd) (ZP (p0,s,g,x,2,hd) 2 d) 2=l'++[(y.1,x,y.2.2.1,2,y.2.2.2.2)]:=by rw[Ziz _ _ _ rfl];show Zcy (l'++[y]) _=_;rw[Zat,itN y 1 yN (by decide) (by decide)];rfl
  have hcy:cyI (l'++[(y.1,x,y.2.2.1,2,y.2.2.2.2)])=cyI (l'++[y]):=by rw[ZdM,ZdM];have:y.2.2.2.1=1:=yN;rw[this,y1];rfl
  rw[hi];have hno:s=0->p0.2.2.2.2.1=true->False:=λa b=>by have:=rest a b;omega
  have hck:Zs (p0,s,g,x,2,hd) l d=(Zf p0 l,s,g,x,bif l.1|| !Zm x.1 then 3 else 7,bif l.1|| !Zm x.1 then l.2.1 else hd):=by unfold Zs;simp only[hr,hsx];show (bif l.1|| !Zm x.1 then _ else _)=_;cases l.1|| !Zm x.1<;>rfl
  rw[hck];have hk:(bif l.1|| !Zm x.1 then (3:Int) else 7)=3\/(bif l.1|| !Zm x.1 then (3:Int) else 7)=7:=by cases l.1|| !Zm x.1<;>simp
  generalize (bif l.1|| !Zm x.1 then (3:Int) else 7)=k at hk;refine⟨hcp,hun,by show 1<=k/\k<=9;omega,λa b=>(hno a (by rw[<-hhl];exact b)).elim,λe=>by replace e:k=9:=e;omega,λ_=>by rw[hnxt];exact cy (by omega),by rw[hcy];exact hit,ln,λ_=>⟨l',_,rfl,y1,?_⟩,λe1 e2=>by replace e1:4<=k:=e1;replace e2:k<=6:=e2;omega⟩;show (2:Int)=bif k==2 then 1 else 2
  rcases hk with rfl|rfl<;>rfl
 ·--T3
  subst e;obtain⟨l',y,rfl,y1,yN⟩:=pt (.inr (.inl rfl));obtain⟨cy1,cy2⟩:=cy (by omega);generalize hx3:ZaW (Zf p0 l) x d=x3;have hx3':ZaW p0 x d=x3:=by rw[<-Zq0 hchip];exact hx3
  have hcur:ZP (p0,s,g,x,3,hd) 3 d=x3:=by rw[ZNk _ _ (Zf p0 l) hchip];exact hx3
  have hi:ZbN (l'++[y]) (p0,s,g,x,3,hd) (ZP (p0,s,g,x,3,hd) 3 d) 3=l'++[(y.1,x3,y.2.2.1,3,y.2.2.2.2)]:=by rw[hcur];show Zcy (l'++[y]) _=_;rw[Zat,itN y 2 yN (by decide) (by decide)];rfl
  rw[hi];have hac:=Zqg (ZaX s0 ev) s;have hna:∀g,Zg (Zw (ZaX s0 ev) s) s g=Zg p0 s g:=λg=>(ZyM un s g).symm
  obtain⟨k1,k2⟩:=ZGz (Zw (ZaX s0 ev) s) s g [] x3.2.2.1 ln (by rw[List.nil_append,hna];exact cy2);rw[List.nil_append,hna,<-cy1,<-hx3',ZBb p0 (Zw (ZaX s0 ev) s) (ZnK un).1.symm,hx3'] at k1;have hit':cyI (l'++[(y.1,x3,y.2.2.1,3,y.2.2.2.2)])=cyA s0 ev++cyX (Zw (ZaX s0 ev) s) s [] (g++[x3.2.2.1]):=by rw[k1,<-List.append_assoc,<-hit,ZdM,ZdM];have:y.2.2.2.1=2:=yN;rw[this,y1];show cyI l'++[x3]=cyI l'++[]++[x3];rw[YQ]
  have hno:s=0->(Zf p0 l).2.2.2.2.1=true->False:=λa b=>by have:=rest a (by rw[<-hhl];exact b);omega
  have hby:ZfV (p0,s,g,x,3,hd) 3 d=g++[x3.2.2.1]:=by unfold ZfV;rw[hcur];rfl
  have hrd:rdS (p0,s,g,x,3,hd) 3 d=(x3,g++[x3.2.2.1]):=by show (ZaW p0 x d,g++[(ZaW p0 x d).2.2.1])=_;rw[hx3']
  have hen:ZhI 3 x3=le3 x3.2.2.2:=rfl;cases hle:le3 x3.2.2.2
  ·have hf:(finS (p0,s,g,x,3,hd) l d).2=false:=by unfold finS;simp only[hr,hrd,hen,hle,Ya,Yb,Yq]
   have hck:Zs (p0,s,g,x,3,hd) l d=(Zf p0 l,s,g++[x3.2.2.1],x3,4,hd):=by unfold Zs;simp only[hr,hsx,hx3,hle];rfl
   rw[hck,hf];exact⟨hcp,hun,⟨(by decide:(1:Int)<=4),(by decide:(4:Int)<=9)⟩,λa b=>(hno a b).elim,λe=>by simp at e,λe=>by simp at e,hit',k2,λe=>by simp at e,λ_ _=>⟨l',_,rfl,y1,rfl,rfl⟩⟩
  ·have hck:Zs (p0,s,g,x,3,hd) l d=endX (Zf p0 l) s (g++[x3.2.2.1]) hd l:=by unfold Zs;simp only[hr,hsx,hx3,hle];rfl
   have hf:finS (p0,s,g,x,3,hd) l d=bif (Zg (Zf p0 l) s (g++[x3.2.2.1])).2 then (Zzw,false) else (finX (Zf p0 l) s (g++[x3.2.2.1]) l,true):=by unfold finS;simp only[hr,hrd,hen,hle,Ya,Yb,Yg]
   have:=ZC7 (Zf p0 l) s (g++[x3.2.2.1]) hd l hcp hun hno hit' k2;rw[hck,hf,hby];cases hn:(Zg (Zf p0 l) s (g++[x3.2.2.1])).2
   ·rw[hn] at this;exact this
   ·rw[hn] at this;exact this
 ·exact sem456 4 (.inl rfl) e
 ·exact sem456 5 (.inr (.inl rfl)) e
 ·exact sem456 6 (.inr (.inr rfl)) e
 ·--TWait
  subst e;rw[hnf 7 rfl rfl rfl];obtain⟨l',y,rfl,y1,yN⟩:=pt (.inr (.inr rfl));have hi:ZbN (l'++[y]) (p0,s,g,x,7,hd) (ZP (p0,s,g,x,7,hd) 7 d) 7=l'++[(y.1,x,IntKind.wrap .i64 (y.2.2.1+1),y.2.2.2)]:=by rw[Ziz _ _ _ rfl];show Zcy (l'++[y]) _=_;rw[Zat];rfl
  have hcy:cyI (l'++[(y.1,x,IntKind.wrap .i64 (y.2.2.1+1),y.2.2.2)])=cyI (l'++[y]):=by rw[ZdM,ZdM];have:y.2.2.2.1=2:=yN;rw[this,y1];rfl
  rw[hi];have hno:s=0->p0.2.2.2.2.1=true->False:=λa b=>by have:=rest a b;omega
  have hck:Zs (p0,s,g,x,7,hd) l d=(Zf p0 l,s,g,x,bif l.1|| !Zm x.1 then 3 else 7,bif l.1|| !Zm x.1 then l.2.1 else hd):=by unfold Zs;simp only[hr,hsx];show (bif l.1|| !Zm x.1 then _ else _)=_;cases l.1|| !Zm x.1<;>rfl
  rw[hck];have hk:(bif l.1|| !Zm x.1 then (3:Int) else 7)=3\/(bif l.1|| !Zm x.1 then (3:Int) else 7)=7:=by cases l.1|| !Zm x.1<;>simp
  generalize (bif l.1|| !Zm x.1 then (3:Int) else 7)=k at hk;refine⟨hcp,hun,by show 1<=k/\k<=9;omega,λa b=>(hno a (by rw[<-hhl];exact b)).elim,λe=>by replace e:k=9:=e;omega,λ_=>by rw[hnxt];exact cy (by omega),by rw[hcy];exact hit,ln,λ_=>⟨l',_,rfl,y1,?_⟩,λe1 e2=>by replace e1:4<=k:=e1;replace e2:k<=6:=e2;omega⟩;show y.2.2.2.1=bif k==2 then 1 else 2
  rw[show y.2.2.2.1=2 from yN];rcases hk with rfl|rfl<;>rfl
 ·--THold
  subst e;rw[hnf 8 rfl rfl rfl];have hck:Zs (p0,s,g,x,8,hd) l d=(Zf p0 l,s,g,x,idlX (Zf p0 l) s l.2.1,hd):=by unfold Zs;simp only[hr,hsx];rfl
  have hcy:cyI (ZbN it (p0,s,g,x,8,hd) (ZP (p0,s,g,x,8,hd) 8 d) 8)=cyI it:=ZlS (by decide) rfl;rw[hck];obtain⟨i1,i2,i3⟩:=Zd6 (Zf p0 l) s l.2.1;generalize idlX (Zf p0 l) s l.2.1=k at i1 i2 i3;refine⟨hcp,hun,by show 1<=k/\k<=9;omega,λa b=>⟨i3 a b,(rest a (by rw[<-hhl];exact b)).2⟩,i2,λ_=>by rw[hnxt];exact cy (by omega),by rw[hcy];exact hit,ln,λe=>by replace e:k=2\/k=3\/k=7:=e;omega,λe1 e2=>by replace e1:4<=k:=e1;replace e2:k<=6:=e2;omega⟩
 ·--THalt
  subst e;rw[hnf 9 rfl rfl rfl];obtain⟨z1,z2⟩:=nine rfl;obtain⟨_,z3⟩:=rest z1 z2;subst z1;subst z3;have hcy:cyI (ZbN it (p0,0,[],x,9,hd) (ZP (p0,0,[],x,9,hd) 9 d) 9)=cyI it:=ZlS (by decide) rfl;have hck:Zs (p0,0,[],x,9,hd) l d=bif ZcT (Zf p0 l) l==0 then (Zf p0 l,0,[],x,bif l.2.1 then 8 else 9,hd) else (Zw (Zf p0 l) (ZcT (Zf p0 l) l),ZcT (Zf p0 l) l,[],(Zg (Zw (Zf p0 l) (ZcT (Zf p0 l) l)) (ZcT (Zf p0 l) l) []).1,bif l.2.1 then 8 else 1,hd):=by unfold Zs;simp only[hr,hsx];rfl
  rw[hck];generalize ZcT (Zf p0 l) l=k;cases hk:k==0
  ·simp only[Yb];have hk0:k≠0:=by simpa using hk
   have hn:(bif l.2.1 then (8:Int) else 1)=8\/(bif l.2.1 then (8:Int) else 1)=1:=by cases l.2.1<;>simp
   generalize (bif l.2.1 then (8:Int) else 1)=n at hn;refine⟨hcp,ZKz (hun.trans (by rw[ZIM])) k,by show 1<=n/\n<=9;omega,λa _=>(hk0 a).elim,λe=>by replace e:n=9:=e;omega,λ_=>⟨rfl,Zi3 _ _⟩,by rw[hcy];exact hit,rfl,λe=>by replace e:n=2\/n=3\/n=7:=e;omega,λe1 e2=>by replace e1:4<=n:=e1;replace e2:n<=6:=e2;omega⟩
  ·simp only[Ya];have hn:(bif l.2.1 then (8:Int) else 9)=8\/(bif l.2.1 then (8:Int) else 9)=9:=by cases l.2.1<;>simp
   generalize (bif l.2.1 then (8:Int) else 9)=n at hn;refine⟨hcp,hun,by show 1<=n/\n<=9;omega,λa _=>⟨hn,rfl⟩,λ_=>⟨rfl,by rw[<-hhl] at z2;exact z2⟩,λ_=>by rw[hnxt];exact cy (by omega),by rw[hcy];exact hit,rfl,λe=>by replace e:n=2\/n=3\/n=7:=e;omega,λe1 e2=>by replace e1:4<=n:=e1;replace e2:n<=6:=e2;omega⟩
end
end Go.Proofs.YtghoimllhpjkjaaGreat
