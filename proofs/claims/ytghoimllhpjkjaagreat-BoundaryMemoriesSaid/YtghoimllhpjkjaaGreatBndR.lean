import Derived.Test.YtghoimllhpjkjaaGreatIsaQ
import Derived.Test.YtghoimllhpjkjaaGreatS3D
import Derived.Test.YtghoimllhpjkjaaGreatProg
open Go.IntKind (u8 u16 i64)
open Go Go.S3 Go.Proofs Go.Proofs.Cells
set_option linter.unusedVariables false
set_option linter.unusedSimpArgs false
set_option maxRecDepth 100000
namespace Go.Proofs.YtghoimllhpjkjaaGreat
noncomputable section
theorem smCb {l:List Cell} (h:l.length<=1000000):smC l=true:=ZaF (by have:=mst;omega)
theorem smGb {l:List Z1} (h:l.length<=1000000):smG l=true:=ZaF (by have:=mst;omega)
def ZX (b:BRDT) (s:SYST) (i:INPT):SYST:=(s.1,s.2.1,(bif !b.2.2.2.2.2.1 then ZEo s.2.2.1 i.2.2.2.2.2.2.2.2.1 else s.2.2.1),s.2.2.2)
def ZcY (b:BRDT) (s:SYST) (i:INPT):LINT:=
 (i.1&&decide (Zhw s>=ZR2 b s.1.2.2.2.1),i.2.1||Zcq s.2.2.2.1,i.2.2.1,i.2.2.2.1,i.2.2.2.2.1,i.2.2.2.2.2.1,i.2.2.2.2.2.2.1,i.2.2.2.2.2.2.2.1,
  bif b.2.2.2.2.2.1 then andI .u8 i.2.2.2.2.2.2.2.2.1 1==1 else vInt s.2.2.1)
def busS (b:BRDT) (s:SYST) (i:INPT):SYST×Int:=
 let x:=s.1.2.2.2.1
 let q:=Zdz b (IntKind.wrap .u8 x.2.1)
 let d:=ZfX b (IntKind.wrap .u8 x.2.1)
 bif i.2.2.1||(Z3 s.1 !=3|| !ZcG x.1) then (s,0) else
 bif decide (x.1>=1)&&decide (x.1<=5) then (s,Zqx b.2.1 s.2.1 x.2.1) else
 bif x.1 !=6&&b.2.2.2.2.2.1 then (s,i.2.2.2.2.2.2.2.2.2) else
 bif x.1 !=6 then ((s.1,s.2.1,(vAck s.2.2.1).1,s.2.2.2),(vAck s.2.2.1).2) else
 bif q.2 then ((s.1,s.2.1,(ZR9 s.2.2.1 q.1).1,s.2.2.2),(ZR9 s.2.2.1 q.1).2) else
 bif d.2 then (s,ZLz s.2.2.2.1 d.1) else (s,i.2.2.2.2.2.2.2.2.2)
def Zf3 (b:BRDT) (s:SYST) (x:TY):SYST:=
 let q:=Zdz b (IntKind.wrap .u8 x.2.1)
 let d:=ZfX b (IntKind.wrap .u8 x.2.1)
 bif x.1 !=7 then (s.1,Zbw b.2.1 s.2.1 x.2.1 x.2.2.1,s.2.2) else
 (s.1,s.2.1,(bif q.2 then ZLr s.2.2.1 q.1 x.2.2.1 else s.2.2.1),(bif q.2 then s.2.2.2.1 else bif d.2 then Zzu s.2.2.2.1 d.1 x.2.2.1 else s.2.2.2.1),s.2.2.2.2.1,
  s.2.2.2.2.2++[(IntKind.wrap .u8 x.2.1,x.2.2.1)])
def stepP (p:PICT) (n:Int):PICT:=
 (p.1,p.2.1,p.2.2.1,p.2.2.2.1,p.2.2.2.2.1,p.2.2.2.2.2.1,p.2.2.2.2.2.2.1,p.2.2.2.2.2.2.2.1,p.2.2.2.2.2.2.2.2.1,p.2.2.2.2.2.2.2.2.2.1,p.2.2.2.2.2.2.2.2.2.2.1,p.2.2.2.2.2.2.2.2.2.2.2.1,
  p.2.2.2.2.2.2.2.2.2.2.2.2.1,p.2.2.2.2.2.2.2.2.2.2.2.2.2.1,p.2.2.2.2.2.2.2.2.2.2.2.2.2.2.1,p.2.2.2.2.2.2.2.2.2.2.2.2.2.2.2.1,p.2.2.2.2.2.2.2.2.2.2.2.2.2.2.2.2.1,n,p.2.2.2.2.2.2.2.2.2.2.2.2.2.2.2.2.2.2)
def ZQ6 (p:PINT):Bool:=p.2.2.2.2.2.2.2.2.2.2.2.2.2.2.2.1
def ZlF (s:SYST) (i:INPT):Bool:= !i.2.2.1&&(Z3 s.1==3&&Zfp s.1.2.2.2.1.1)
def ZhX (b:BRDT) (s:SYST) (i:INPT):SYST:=
 let t:=ZX b s i
 let u:=busS b t i
 ((Zac u.1.1 (ZcY b t i) u.2),u.1.2.1,u.1.2.2.1,u.1.2.2.2.1,Zhw t,u.1.2.2.2.2.2)
def Zd2 (b:BRDT) (s:SYST) (i:INPT):SYST:=bif ZlF s i then Zf3 b (ZhX b s i) s.1.2.2.2.1 else ZhX b s i
def pinS (b:BRDT) (s:SYST) (i:INPT):PINT:=ZtW (busS b (ZX b s i) i).1.1 (ZcY b (ZX b s i) i) (busS b (ZX b s i) i).2
def ZeG (b:BRDT) (s:SYST) (i:INPT):Bool:=ZQ6 (pinS b s i)&&Zcq (Zd2 b s i).2.2.2.1
def Zyk (b:BRDT) (s:SYST) (i:INPT):SYST:=
 let w:=Zd2 b s i
 bif ZeG b s i then (w.1,Zbw b.2.1 w.2.1 w.2.2.2.1.1 w.2.2.2.1.2.1,w.2.2.1,(IntKind.wrap .u16 (w.2.2.2.1.1+1),w.2.2.2.1.2.1,IntKind.wrap .i64 (w.2.2.2.1.2.2-1)),w.2.2.2.2) else w
def ZwV (s:SYST) (r:Bool):SYST:=bif r then (s.1,s.2.1,stepP s.2.2.1 0,(s.2.2.2.1.1,s.2.2.2.1.2.1,0),s.2.2.2.2) else s
def Za0 (b:BRDT) (s:SYST) (i:INPT):SYST×PINT×LINT×Int×Cell×Bool:=
 (ZwV (Zyk b s i) i.2.2.1,pinS b s i,ZcY b (ZX b s i) i,(busS b (ZX b s i) i).2,
  (bif ZeG b s i then ((Zd2 b s i).2.2.2.1.1,(Zd2 b s i).2.2.2.1.2.1) else (0,0)),ZeG b s i)
theorem ZR1 (b:BRDT) (x:TY) (hg:smG b.2.1=true):ZDY b x=true:=by
 unfold ZDY ZDX
 simp only[RT.val,hg,Bool.or_true,cond_true]
 cases decide (x.1>=1)&&decide (x.1<=5)
 ·cases x.1==6||x.1==7<;>rfl
 ·rfl
theorem ZHy (b:BRDT) (s:SYST) (i:INPT) (hg:smG b.2.1=true):ZkZ b s i=true/\ZrJ b s i=ZcY b s i:=by
 have hv:(Zh3 b s i).val=some (ZcY b s i):=by
  unfold Zh3 ZcY
  simp only[RT.val,ZW0,ZR1 b _ hg,Bool.or_true,cond_true,Bool.cond_self]
 exact⟨by simp only[ZkZ,hv];rfl,by simp only[ZrJ,hv,getO]⟩
theorem ZWQ (b:BRDT) (s:SYST) (i:INPT) (hg:smG b.2.1=true) (hc:smC s.2.1=true):ZR5 b s i=true/\wBus b s i=busS b s i:=by
 have hv:(ZLk b s i).val=some (busS b s i):=by
  unfold ZLk busS
  simp only[RT.val,ZW3,ZR8,ZLx,hg,hc,Zeh,ZcJ,R.sel_eq,Bool.and_self,Bool.or_true,Bool.not_true,Bool.false_or,cond_true]
  cases i.2.2.1||(Z3 s.1 !=3|| !ZcG s.1.2.2.2.1.1)
  ·cases decide (s.1.2.2.2.1.1>=1)&&decide (s.1.2.2.2.1.1<=5)
   ·cases s.1.2.2.2.1.1 !=6
    ·cases (Zdz b (IntKind.wrap .u8 s.1.2.2.2.1.2.1)).2
     ·cases (ZfX b (IntKind.wrap .u8 s.1.2.2.2.1.2.1)).2<;>rfl
     ·rfl
    ·cases b.2.2.2.2.2.1<;>rfl
   ·rfl
  ·rfl
 exact⟨by simp only[ZR5,hv];rfl,by simp only[wBus,hv,getO]⟩
theorem ZKY (b:BRDT) (s:SYST) (x:TY) (hg:smG b.2.1=true) (hc:smC s.2.1=true) (ho:s.2.2.2.2.2.length<=1000000):ZrH b s x=true/\ZDW b s x=Zf3 b s x:=by
 have hms:=mst
 have h1:Nat.ble (List.length s.2.2.2.2.2) most=true:=ZaF (by omega)
 have h2:∀y:Int×Int,Nat.ble (List.length (s.2.2.2.2.2++[y])) most=true:=λy=>ZaF (by simp;omega)
 have hv:(ZlH b s x).val=some (Zf3 b s x):=by
  unfold ZlH Zf3
  simp only[RT.val,ZLp,h1,h2,hg,hc,R.sel_eq,Bool.and_self,Bool.or_true,Bool.not_true,Bool.false_or,cond_true,List.nil_append]
  cases x.1 !=7
  ·rfl
  ·rfl
 exact⟨by simp only[ZrH,hv];rfl,by simp only[ZDW,hv,getO]⟩
theorem ZlD (b:BRDT) (s:SYST) (i:INPT):(busS b s i).1.1=s.1/\(busS b s i).1.2.1=s.2.1/\(busS b s i).1.2.2.2=s.2.2.2:=by
 unfold busS
 dsimp only
 cases i.2.2.1||(Z3 s.1 !=3|| !ZcG s.1.2.2.2.1.1)
 ·cases decide (s.1.2.2.2.1.1>=1)&&decide (s.1.2.2.2.1.1<=5)
  ·cases s.1.2.2.2.1.1 !=6
   ·cases (Zdz b (IntKind.wrap .u8 s.1.2.2.2.1.2.1)).2
    ·cases (ZfX b (IntKind.wrap .u8 s.1.2.2.2.1.2.1)).2<;>exact⟨rfl,rfl,rfl⟩
    ·exact⟨rfl,rfl,rfl⟩
   ·cases b.2.2.2.2.2.1<;>exact⟨rfl,rfl,rfl⟩
  ·exact⟨rfl,rfl,rfl⟩
 ·exact⟨rfl,rfl,rfl⟩
theorem ZwG (b:BRDT) (s:SYST) (x:TY):(Zf3 b s x).1=s.1/\(Zf3 b s x).2.1.length<=s.2.1.length+1/\(Zf3 b s x).2.2.2.2.2.length<=s.2.2.2.2.2.length+1:=by
 have:=Zh2 b.2.1 s.2.1 x.2.1 x.2.2.1
 unfold Zf3
 dsimp only
 cases x.1 !=7
 ·exact⟨rfl,by simp only[cond_false];omega,by simp only[cond_false];simp⟩
 ·exact⟨rfl,by simp only[cond_true];omega,by simp only[cond_true];omega⟩
theorem ZvO (b:BRDT) (s:SYST) (i:INPT):(ZhX b s i).2.1=s.2.1/\(ZhX b s i).2.2.2.2.2=s.2.2.2.2.2:=by
 have h:=ZlD b (ZX b s i) i
 unfold ZhX
 simp only[h.1,h.2.1,h.2.2]
 exact⟨rfl,rfl⟩
theorem Zv3 (b:BRDT) (s:SYST) (i:INPT):(Zd2 b s i).1=(ZhX b s i).1/\(Zd2 b s i).2.1.length<=s.2.1.length+1/\(Zd2 b s i).2.2.2.2.2.length<=s.2.2.2.2.2.length+1:=by
 have h1:=ZvO b s i
 have h2:=ZwG b (ZhX b s i) s.1.2.2.2.1
 rw[h1.1,h1.2] at h2
 unfold Zd2
 cases ZlF s i
 ·exact⟨rfl,by simp only[cond_false,h1.1];omega,by simp only[cond_false,h1.2];omega⟩
 ·exact h2
theorem Zy8 (b:BRDT) (s:SYST) (i:INPT):(Za0 b s i).1.1=(ZhX b s i).1/\(Za0 b s i).1.2.1.length<=s.2.1.length+2/\(Za0 b s i).1.2.2.2.2.2.length<=s.2.2.2.2.2.length+1:=by
 have h1:=Zv3 b s i
 have h2:=Zh2 b.2.1 (Zd2 b s i).2.1 (Zd2 b s i).2.2.2.1.1 (Zd2 b s i).2.2.2.1.2.1
 unfold Za0 ZwV Zyk
 dsimp only
 cases ZeG b s i<;>cases i.2.2.1<;>simp only[cond_true,cond_false]<;>exact⟨h1.1,by omega,h1.2.2⟩
theorem ZLg (b:BRDT) (s:SYST) (i:INPT) (hg:smG b.2.1=true) (hc:s.2.1.length<=900000) (ho:s.2.2.2.2.2.length<=900000) (hk:s.1.2.2.1.length<=900000):
  ZrO b s i=true/\ZD7 b s i=Za0 b s i:=by
 have hms:=mst
 have hv:(ZlN b s i).val=some (Za0 b s i):=by
  have hr:(s.1,s.2.1,(bif !b.2.2.2.2.2.1 then ZEo s.2.2.1 i.2.2.2.2.2.2.2.2.1 else s.2.2.1),s.2.2.2)=ZX b s i:=rfl
  have h1:=ZHy b (ZX b s i) i hg
  have h2:=ZWQ b (ZX b s i) i hg (smCb (by show s.2.1.length<=_;omega))
  have h3:=ZlD b (ZX b s i) i
  have h4:ZM0 (busS b (ZX b s i) i).1.1=true:=by rw[h3.1];exact Zmh.2 (by show s.1.2.2.1.length+1<=_;omega)
  have h5:=ZvO b s i
  have h6:=ZKY b (ZhX b s i) s.1.2.2.2.1 hg (smCb (by rw[h5.1];omega)) (by rw[h5.2];omega)
  have h7:=Zv3 b s i
  have hcs:(Zac (busS b (ZX b s i) i).1.1 (ZcY b (ZX b s i) i) (busS b (ZX b s i) i).2,(busS b (ZX b s i) i).1.2.1,(busS b (ZX b s i) i).1.2.2.1,(busS b (ZX b s i) i).1.2.2.2.1,Zhw (ZX b s i),
   (busS b (ZX b s i) i).1.2.2.2.2.2)=ZhX b s i:=rfl
  have ht:∀d:QT7,Zh9 d=bif Zcq d then ((IntKind.wrap .u16 (d.1+1),d.2.1,IntKind.wrap .i64 (d.2.2-1)),(d.1,d.2.1),true) else ((0,0,0),(0,0),false):=λd=>by
   unfold Zh9 Zjm
   simp only[RT.val]
   cases Zcq d<;>rfl
  have h8:smC (Zf3 b (ZhX b s i) s.1.2.2.2.1).2.1=true:=smCb (by have:=(ZwG b (ZhX b s i) s.1.2.2.2.1).2.1;rw[h5.1] at this;omega)
  have h9:smC (busS b (ZX b s i) i).1.2.1=true:=smCb (by rw[h3.2.1];show s.2.1.length<=_;omega)
  unfold ZlN
  simp only[hr,RT.val,h1.1,h1.2,h2.1,h2.2,h4,clkX,hcs,h6.1,h6.2,ht,R.sel_eq,Bool.or_true,cond_true]
  unfold Za0 ZwV Zyk ZeG Zd2 ZlF pinS ZQ6
  dsimp only
  cases !i.2.2.1&&(Z3 s.1==3&&Zfp s.1.2.2.2.1.1)
  ·simp only[cond_false,h9,hg,Bool.and_self,Bool.or_true,cond_true]
   cases (ZtW (busS b (ZX b s i) i).1.1 (ZcY b (ZX b s i) i) (busS b (ZX b s i) i).2).2.2.2.2.2.2.2.2.2.2.2.2.2.2.2.1
   ·cases i.2.2.1<;>rfl
   ·have e:Zcq ((busS b (ZX b s i) i).1.2.2.2.1.1,(busS b (ZX b s i) i).1.2.2.2.1.2.1,(busS b (ZX b s i) i).1.2.2.2.1.2.2)=Zcq (ZhX b s i).2.2.2.1:=rfl
    rw[e]
    cases Zcq (ZhX b s i).2.2.2.1<;>cases i.2.2.1<;>rfl
  ·simp only[cond_true,h8,hg,Bool.and_self,Bool.or_true]
   cases (ZtW (busS b (ZX b s i) i).1.1 (ZcY b (ZX b s i) i) (busS b (ZX b s i) i).2).2.2.2.2.2.2.2.2.2.2.2.2.2.2.2.1
   ·cases i.2.2.1<;>rfl
   ·cases Zcq (Zf3 b (ZhX b s i) s.1.2.2.2.1).2.2.2.1<;>cases i.2.2.1<;>rfl
 exact⟨by simp only[ZrO,hv];rfl,by simp only[ZD7,hv,getO]⟩
def ZdC {α:Type} (l:List α) (f:α->α):List α:=match l.getLast? with
 |some y=>l.dropLast++[f y]
 |none=>[]
theorem Zba {α:Type} (l:List α) (y:α) (f:α->α):ZdC (l++[y]) f=l++[f y]:=by simp[ZdC]
def Zo7 (Zad:TC) (l:List TC):TC:=l.getLastD Zad
theorem Zv4 {α:Type} (l:List α) (y:α) (h:l.length<=1000000):IntKind.wrap .i64 (iN (l++[y]).length-1)=(l.length:Int):=by
 simp only[iN,List.length_append,List.length_cons,List.length_nil]
 rw[wrap_i64 _ (by omega) (by omega)];omega
theorem ZHd {r:R} (l:List r.den) (y:r.den):R.get r (l++[y]) (l.length:Int)=y:=by simp[R.get]
theorem ZEP {α:Type} (l:List α) (y z:α):setI (l++[y]) (l.length:Int) z=l++[z]:=by
 simp[setI]
theorem ZEU {α:Type} (l:List α) (y:α):Zf (l.length:Int) (l++[y]).length=true:=ZK.2 ⟨by omega,by simp;omega⟩
def ZkT (t:Int):Int:=bif t==8 then 2 else bif t==9 then 3 else bif t==10 then 4 else 1
def cycN (c:CORT) (t:Int) (x:TY):TY:=bif t==8 then (0,0,0,0) else bif t==9 then (0,c.1.2.1.2.2.2.2.2.2.2.2.2,0,0) else bif t==10 then (0,0,0,0) else x
def ZUc (c:CORT):Bool:=c.1.2.2.1
def sodC (c:CORT):Bool:=c.1.2.2.2.2.2.2.2.2.2.2.2.2
def ZMN (y:ITMT) (k:Int) (c:CORT):Bool:=y.1==k&&(y.2.2.2.2.1==ZUc c&&y.2.2.2.2.2==sodC c)
def ZYU (y:ITMT):ITMT:=(y.1,y.2.1,y.2.2.1,IntKind.wrap .i64 (y.2.2.2.1+1),y.2.2.2.2)
def ZyN (l:List ITMT) (k:Int) (c:CORT) (n:ITMT):List ITMT:=match l.getLast? with
 |some y=>bif ZMN y k c then ZdC l ZYU else l++[n]
 |none=>l++[n]
def Zep (l:List ITMT) (c:CORT) (x:TY) (t:Int):List ITMT:=
 bif ZkT t !=1 then ZyN l (ZkT t) c (ZkT t,cycN c t x,0,1,ZUc c,sodC c)
 else bif t==1 then l++[(1,cycN c t x,0,1,ZUc c,sodC c)]
 else bif t==7 then ZdC l (λy=>(y.1,cycN c t x,IntKind.wrap .i64 (y.2.2.1+1),y.2.2.2))
 else ZdC l (λy=>(y.1,cycN c t x,y.2.2.1,IntKind.wrap .i64 (y.2.2.2.1+1),y.2.2.2.2))
def ZHw:TC:=(0,(0,0,0,0,0,0,0,(false,false,false,false,false,false,false),0,0),false,false,false,0,false,false,false,false,false,false,false)
def Zfe:LINT:=(false,false,false,false,false,false,false,false,false)
def rdS (c:CORT) (t d:Int):TY×List Int:=bif t !=3 then (c.2.2.2.1,c.2.2.1) else (Zcg c.1 c.2.2.2.1 d,c.2.2.1++[(Zcg c.1 c.2.2.2.1 d).2.2.1])
def finS (c:CORT) (l:LINT) (d:Int):TC×Bool:=
 bif l.2.2.1 then (ZHw,false) else
 bif !ZjH c.2.2.2.2.1 (rdS c c.2.2.2.2.1 d).1 then (ZHw,false) else
 bif (Zj (Zm c.1 l) c.2.1 (rdS c c.2.2.2.2.1 d).2).2 then (ZHw,false) else (finX (Zm c.1 l) c.2.1 (rdS c c.2.2.2.2.1 d).2 l,true)
def ZeK (c:CORT) (t d:Int):List Int:=bif t==3 then c.2.2.1++[(Zal c t d).2.2.1] else c.2.2.1
def evE (ev:List EVTT) (c:CORT) (l:LINT) (d:Int) (cell:Cell) (moved:Bool):List EVTT:=
 let e1:=bif (finS c l d).2 then ev++[Zff (ZkP c.2.1,c.2.1,ZeK c (Z3 c) d,Zfe,false,false,false,false,0,0) (Zm c.1 l) l] else ev
 bif l.2.2.1 then (bif Zc3 c then ev++[Zff (6,c.2.1,c.2.2.1,Zfe,false,false,false,false,0,0) c.1 l] else ev)++[Zff (4,0,[],Zfe,false,false,false,false,0,0) c.1 l]
 else bif moved then e1++[(5,0,[],Zfe,false,false,false,false,cell)] else e1
def evC (cp:List TC) (Zad:TC) (c:CORT) (after:CORT) (l:LINT) (d:Int) (moved:Bool):List TC:=
 let c1:=bif (finS c l d).2 then cp++[(finS c l d).1] else cp
 bif l.2.2.1 then (bif Zc3 c then cp++[Zo7 Zad cp] else cp)++[after.1]
 else bif moved then c1++[Zo7 Zad cp] else c1
abbrev STT:=SYST×List PINT×List ITMT×List EVTT×List TC
def nowS (s:SYST) (i:INPT):Int:=bif i.2.2.1 then 10 else Z3 s.1
def Za5 (b:BRDT) (Zad:TC) (st:STT) (i:INPT):STT:=
 let k:=Za0 b st.1 i
 (k.1,st.2.1++[k.2.1],Zep st.2.2.1 st.1.1 (Zal st.1.1 (nowS st.1 i) k.2.2.2.1) (nowS st.1 i),
  evE st.2.2.2.1 st.1.1 k.2.2.1 k.2.2.2.1 k.2.2.2.2.1 k.2.2.2.2.2,evC st.2.2.2.2 Zad st.1.1 k.1.1 k.2.2.1 k.2.2.2.1 k.2.2.2.2.2)
structure RunOk (b:BRDT) (st:STT) (n:Nat):Prop where
 g:smG b.2.1=true
 m:st.1.2.1.length<=100000+2*n
 o:st.1.2.2.2.2.2.length<=n
 k:st.1.1.2.2.1.length<=n
 t:st.2.1.length<=n
 it:st.2.2.1.length<=n
 ev:st.2.2.2.1.length<=2*n
 cp:st.2.2.2.2.length<=2*n
 ne:st.2.2.1=[]->Z3 st.1.1=1
theorem ZST (c:CORT) (t d:Int) (h:c.2.2.1.length<=1000000):ZeZ c t d=true/\ZhJ c t d=rdS c t d:=by
 have hms:=mst
 have h1:Nat.ble (List.length c.2.2.1) most=true:=ZaF (by omega)
 have h2:∀y:Int,Nat.ble (List.length (c.2.2.1++[y])) most=true:=λy=>ZaF (by simp;omega)
 have hv:(Zir c t d).val=some (rdS c t d):=by
  unfold Zir rdS Zcg
  simp only[RT.val,h1,h2,List.nil_append,Bool.or_true,cond_true]
  cases t !=3<;>rfl
 exact⟨by simp only[ZeZ,hv];rfl,by simp only[ZhJ,hv,getO]⟩
theorem ZWO (c:CORT) (l:LINT) (d:Int) (h:c.2.2.1.length<=1000000):ZgJ c l d=true/\Zh4 c l d=finS c l d:=by
 have h1:=ZST c c.2.2.2.2.1 d h
 have hv:(ZeQ c l d).val=some (finS c l d):=by
  unfold ZeQ finS
  simp only[RT.val,h1.1,h1.2,cond_true]
  cases l.2.2.1
  ·cases ZjH c.2.2.2.2.1 (rdS c c.2.2.2.2.1 d).1
   ·rfl
   ·cases (Zj (Zm c.1 l) c.2.1 (rdS c c.2.2.2.2.1 d).2).2<;>rfl
  ·rfl
 exact⟨by simp only[ZgJ,hv];rfl,by simp only[Zh4,hv,getO]⟩
theorem ZLj (c:CORT) (t d:Int) (h:c.2.2.1.length<=1000000):ZrQ c t d=true/\ZEb c t d=ZeK c t d:=by
 have hms:=mst
 have h1:Nat.ble (List.length c.2.2.1) most=true:=ZaF (by omega)
 have h2:∀y:Int,Nat.ble (List.length (c.2.2.1++[y])) most=true:=λy=>ZaF (by simp;omega)
 have hv:(ZlP c t d).val=some (ZeK c t d):=by
  unfold ZlP ZeK
  simp only[RT.val,h1,h2,List.nil_append,Bool.or_true,cond_true]
 exact⟨by simp only[ZrQ,hv];rfl,by simp only[ZEb,hv,getO]⟩
theorem ZG4 (Zad:TC) (l:List TC) (h:l.length<=1000000):
  (!decide (iN l.length>0)||Zf (IntKind.wrap .i64 (iN l.length-1)) l.length)=true/\R.sel ZF (decide (iN l.length>0)) (R.get ZF l (IntKind.wrap .i64 (iN l.length-1))) Zad=Zo7 Zad l:=by
 rcases List.eq_nil_or_concat l with rfl|⟨l',y,rfl⟩
 ·exact⟨rfl,by rw[R.sel_eq];rfl⟩
 ·simp only[List.concat_eq_append,List.length_append,List.length_singleton] at h|-
  have w:=Zv4 l' y (by omega)
  have d:decide (iN (l'.length+1)>0)=true:=decide_eq_true (by simp only[iN];omega)
  simp only[List.length_append,List.length_singleton] at w
  rw[w,d,R.sel_eq]
  have:=ZEU l' y
  simp only[List.length_append,List.length_singleton] at this
  rw[this]
  exact⟨rfl,by simp only[cond_true,Zo7];rw[show R.get ZF (l'++[y]) (l'.length:Int)=y from ZHd (r:=ZF) l' y];simp⟩
theorem ZMY (b:BRDT) (l:List INPT) (i:Nat) (r0:RUNT) (s0:SYST) (Zad:TC) (st:STT) (n:Nat) (h:RunOk b st n) (hi:i<l.length) (hl:l.length<=100000) (hn:n<=200000):
  (Zfg (l,(l.length:Int),(i:Int),b,r0,st.1,s0,Zad,st.2.1,st.2.2.1,st.2.2.2.1,st.2.2.2.2,())).val=
   some (Go1.cont (l,(l.length:Int),((i+1:Nat):Int),b,r0,(Za5 b Zad st (R.get Zdt l (i:Int))).1,s0,Zad,(Za5 b Zad st (R.get Zdt l (i:Int))).2.1,(Za5 b Zad st (R.get Zdt l (i:Int))).2.2.1,
    (Za5 b Zad st (R.get Zdt l (i:Int))).2.2.2.1,(Za5 b Zad st (R.get Zdt l (i:Int))).2.2.2.2,())):=by
 have hms:=mst
 obtain⟨s,tr,it,ev,cp⟩:=st
 obtain⟨g,m,o,k,t,hit,hev,hcp,ne⟩:=h
 simp only at g m o k t hit hev hcp ne
 have d:decide ((i:Int)<(l.length:Int))=true:=decide_eq_true (by omega)
 have hin:Zf (i:Int) l.length=true:=ZK.2 ⟨by omega,by omega⟩
 have w:IntKind.wrap .i64 ((i:Int)+1)=((i+1:Nat):Int):=by rw[wrap_i64 _ (by omega) (by omega)];omega
 obtain⟨q,hq⟩:∃q,R.get Zdt l (i:Int)=q:=⟨_,rfl⟩
 rw[hq]
 have hc:=ZLg b s q g (by omega) (by omega) (by omega)
 have hf:=ZWO s.1 (Za0 b s q).2.2.1 (Za0 b s q).2.2.2.1 (by omega)
 have hb:=ZLj s.1 (Z3 s.1) (Za0 b s q).2.2.2.1 (by omega)
 have hlc:=ZG4 Zad cp (by omega)
 have htr:∀x:PINT,Nat.ble (tr++[x]).length most=true:=λx=>ZaF (by simp;omega)
 have he1:∀x:EVTT,Nat.ble (ev++[x]).length most=true:=λx=>ZaF (by simp;omega)
 have he2:∀(c:Bool) (x y:EVTT),Nat.ble ((bif c then ev++[x] else ev)++[y]).length most=true:=λc x y=>ZaF (by cases c<;>simp<;>omega)
 have hc1:∀x:TC,Nat.ble (cp++[x]).length most=true:=λx=>ZaF (by simp;omega)
 have hc2:∀(c:Bool) (x y:TC),Nat.ble ((bif c then cp++[x] else cp)++[y]).length most=true:=λc x y=>ZaF (by cases c<;>simp<;>omega)
 have hg:Nat.ble (List.length s.1.2.2.1) most=true:=ZaF (by omega)
 obtain⟨T,hT⟩:∃T,(bif q.2.2.1 then (10:Int) else Z3 s.1)=T:=⟨_,rfl⟩
 have hT':nowS s q=T:=hT
 rcases List.eq_nil_or_concat it with rfl|⟨it',y,rfl⟩
 ·have hTT:T=1\/T=10:=by
   rw[<-hT,ne rfl]
   cases q.2.2.1
   ·exact .inl rfl
   ·exact .inr rfl
  have w0:IntKind.wrap .i64 (iN ([]:List ITMT).length-1)= -1:=by decide
  have w1:decide ((-1:Int)>=0)=false:=by decide
  have w2:Zf (-1) ([]:List ITMT).length=false:=by decide
  have hi1:∀x:ITMT,Nat.ble [x].length most=true:=λx=>ZaF (by simp;omega)
  unfold Zfg
  rcases hTT with rfl|rfl
  ·have e1:((1:Int)==1)=true:=rfl
   have e8:((1:Int)==8)=false:=rfl
   have e9:((1:Int)==9)=false:=rfl
   have e10:((1:Int)==10)=false:=rfl
   have e7:((1:Int)==7)=false:=rfl
   have n1:((1:Int) !=1)=false:=rfl
   simp only[RT.val,d,hin,w,hq,hT,hc.1,hc.2,hf.1,hf.2,hb.1,hb.2,hlc.1,hlc.2,htr,hi1,he1,he2,hc1,hc2,hg,w0,w1,w2,e1,e8,e9,e10,e7,n1,List.nil_append,Zeh,ZcJ,Bool.or_true,Bool.true_or,Bool.not_true,Bool.false_or,Bool.or_false,Bool.not_false,Bool.or_self,Bool.false_and,Bool.true_and,Bool.and_false,cond_true,cond_false]
   unfold Za5
   rw[hT']
   simp only[Zep,ZkT,cycN,e1,e8,e9,e10,e7,n1,cond_true,cond_false,List.nil_append]
   rfl
  ·have e1:((10:Int)==1)=false:=rfl
   have e8:((10:Int)==8)=false:=rfl
   have e9:((10:Int)==9)=false:=rfl
   have e10:((10:Int)==10)=true:=rfl
   have e7:((10:Int)==7)=false:=rfl
   have n1:((4:Int) !=1)=true:=rfl
   simp only[RT.val,d,hin,w,hq,hT,hc.1,hc.2,hf.1,hf.2,hb.1,hb.2,hlc.1,hlc.2,htr,hi1,he1,he2,hc1,hc2,hg,w0,w1,w2,e1,e8,e9,e10,e7,n1,List.nil_append,Zeh,ZcJ,Bool.or_true,Bool.true_or,Bool.not_true,Bool.false_or,Bool.or_false,Bool.not_false,Bool.or_self,Bool.false_and,Bool.true_and,Bool.and_false,cond_true,cond_false]
   unfold Za5
   rw[hT']
   simp only[Zep,ZkT,cycN,ZyN,List.getLast?_nil,e1,e8,e9,e10,e7,n1,cond_true,cond_false,List.nil_append]
   rfl
 ·simp only[List.concat_eq_append] at hit|-
  have hlen:it'.length<=1000000:=by simp at hit;omega
  have w0:=Zv4 it' y hlen
  have w1:decide ((it'.length:Int)>=0)=true:=decide_eq_true (by omega)
  have w2:=λz:ITMT=>ZEU it' z
  have w3:=λz:ITMT=>ZHd (r:=Zz5) it' z
  have w4:=λz:ITMT=>ZEP it' y z
  have w5:=λz z2:ITMT=>ZEP it' z z2
  have hi1:∀x:ITMT,Nat.ble (it'++[y]++[x]).length most=true:=λx=>ZaF (by simp at hit|-;omega)
  have hj:∀f:ITMT->ITMT,ZdC (it'++[y]) f=it'++[f y]:=Zba it' y
  unfold Zfg
  simp only[RT.val,d,hin,w,hq,hT,hc.1,hc.2,hf.1,hf.2,hb.1,hb.2,hlc.1,hlc.2,htr,hi1,he1,he2,hc1,hc2,hg,w0,w1,w2,w3,w4,w5,List.nil_append,Zeh,ZcJ,Bool.or_true,Bool.true_or,Bool.not_true,Bool.false_or,Bool.or_false,Bool.not_false,Bool.or_self,Bool.false_and,Bool.true_and,Bool.and_false,cond_true,cond_false]
  unfold Za5
  rw[hT']
  simp only[Zep,ZkT,cycN,ZyN,List.getLast?_concat,hj,ZMN,ZYU]
  cases T==8<;>cases T==9<;>cases T==10<;>rfl
theorem ZKF (c:CORT) (l:LINT) (d:Int):(Zac c l d).2.2.1.length<=c.2.2.1.length+1:=by
 have he:∀(c:TC) (s:Int) (g:List Int) (h:Bool) (l:LINT),(endX c s g h l).2.2.1.length<=g.length:=by
  intro c s g h l
  unfold endX
  cases (Zj c s g).2
  ·exact Nat.zero_le _
  ·exact Nat.le_refl _
 unfold Zac
 dsimp only
 cases l.2.2.1
 ·cases ZaD c.2.2.2.2.1==1
  ·cases ZaD c.2.2.2.2.1==2||ZaD c.2.2.2.2.1==7
   ·cases ZaD c.2.2.2.2.1==8
    ·cases ZaD c.2.2.2.2.1==9
     ·cases ZaD c.2.2.2.2.1==3
      ·cases decide (ZaD c.2.2.2.2.1<c.2.2.2.1.2.2.2)&& !(ZaD c.2.2.2.2.1==6)
       ·exact Nat.le_trans (he _ _ _ _ _) (Nat.le_succ _)
       ·exact Nat.le_succ _
      ·cases le3 (Zcg (Zm c.1 l) c.2.2.2.1 d).2.2.2
       ·simp only[cond_true,cond_false,List.length_append,List.length_singleton];omega
       ·exact Nat.le_trans (he _ _ _ _ _) (by simp)
     ·cases ZfP (Zm c.1 l) l==0
      ·exact Nat.zero_le _
      ·exact Nat.le_succ _
    ·exact Nat.le_succ _
   ·cases l.1|| !Zao c.2.2.2.1.1<;>exact Nat.le_succ _
  ·exact Nat.le_succ _
 ·exact Nat.zero_le _
theorem Zrt (b:BRDT) (s:SYST) (i:INPT):(Za0 b s i).1.1=Zac s.1 (ZcY b (ZX b s i) i) (busS b (ZX b s i) i).2:=by
 rw[(Zy8 b s i).1]
 show Zac (busS b (ZX b s i) i).1.1 _ _=_
 rw[(ZlD b (ZX b s i) i).1]
 rfl
theorem ZJ8 {α:Type} (l:List α) (f:α->α):(ZdC l f).length=l.length:=by
 rcases List.eq_nil_or_concat l with rfl|⟨l',y,rfl⟩
 ·rfl
 ·rw[List.concat_eq_append,Zba];simp
theorem ZQU (l:List ITMT) (k:Int) (c:CORT) (n:ITMT):(ZyN l k c n).length<=l.length+1/\ZyN l k c n≠[]:=by
 unfold ZyN
 rcases List.eq_nil_or_concat l with rfl|⟨l',y,rfl⟩
 ·exact⟨by simp,by simp⟩
 ·rw[List.concat_eq_append,List.getLast?_concat]
  dsimp only
  cases ZMN y k c
  ·exact⟨by simp,by simp⟩
  ·simp only[cond_true];rw[Zba];exact⟨by simp,by simp⟩
theorem ZQV (l:List ITMT) (c:CORT) (x:TY) (t:Int) (h:l=[]->t=1\/t=10):(Zep l c x t).length<=l.length+1/\Zep l c x t≠[]:=by
 have hj:=ZQU l (ZkT t) c (ZkT t,cycN c t x,0,1,ZUc c,sodC c)
 have ho:∀f:ITMT->ITMT,l≠[]->(ZdC l f).length<=l.length+1/\ZdC l f≠[]:=λf hl=>by
  have:=ZJ8 l f
  refine⟨by omega,λe=>hl ?_⟩
  rw[e] at this
  exact List.length_eq_zero_iff.1 this.symm
 unfold Zep
 cases hk:ZkT t !=1
 ·cases h1:t==1
  ·have hl:l≠[]:=λe=>by
    rcases h e with rfl|rfl
    ·simp at h1
    ·simp[ZkT] at hk
   cases t==7
   ·exact ho _ hl
   ·exact ho _ hl
  ·exact⟨by simp,by simp⟩
 ·exact hj
theorem ZYQ (s:SYST) (i:INPT) (h:Z3 s.1=1):nowS s i=1\/nowS s i=10:=by
 unfold nowS
 rw[h]
 cases i.2.2.1
 ·exact .inl rfl
 ·exact .inr rfl
theorem ZZl (ev:List EVTT) (c:CORT) (l:LINT) (d:Int) (cell:Cell) (moved:Bool):(evE ev c l d cell moved).length<=ev.length+2:=by
 unfold evE
 dsimp only
 cases l.2.2.1
 ·cases (finS c l d).2<;>cases moved<;>simp
 ·cases Zc3 c<;>simp
theorem ZZm (cp:List TC) (Zad:TC) (c after:CORT) (l:LINT) (d:Int) (moved:Bool):(evC cp Zad c after l d moved).length<=cp.length+2:=by
 unfold evC
 dsimp only
 cases l.2.2.1
 ·cases (finS c l d).2<;>cases moved<;>simp
 ·cases Zc3 c<;>simp
theorem ZES (b:BRDT) (Zad:TC) (st:STT) (i:INPT) (n:Nat) (h:RunOk b st n):RunOk b (Za5 b Zad st i) (n+1):=by
 have hc:=Zy8 b st.1 i
 have hi:=ZQV st.2.2.1 st.1.1 (Zal st.1.1 (nowS st.1 i) (Za0 b st.1 i).2.2.2.1) (nowS st.1 i) (λe=>ZYQ st.1 i (h.ne e))
 refine⟨h.g,?_,?_,?_,?_,?_,?_,?_,?_⟩
 ·have:=h.m;show (Za0 b st.1 i).1.2.1.length<=_;omega
 ·have:=h.o;show (Za0 b st.1 i).1.2.2.2.2.2.length<=_;omega
 ·have:=h.k;show (Za0 b st.1 i).1.1.2.2.1.length<=_
  rw[Zrt]
  have:=ZKF st.1.1 (ZcY b (ZX b st.1 i) i) (busS b (ZX b st.1 i) i).2
  omega
 ·have:=h.t;show (st.2.1++[_]).length<=_;simp;omega
 ·have:=h.it;exact Nat.le_trans hi.1 (by omega)
 ·have:=h.ev;exact Nat.le_trans (ZZl _ _ _ _ _ _) (by omega)
 ·have:=h.cp;exact Nat.le_trans (ZZm _ _ _ _ _ _ _) (by omega)
 ·intro e;exact absurd e hi.2
def ZaJ (b:BRDT) (Zad:TC) (st:STT) (l:List INPT):STT:=l.foldl (Za5 b Zad) st
theorem ZvG (b:BRDT) (Zad:TC):∀(l:List INPT) (st:STT) (n:Nat),RunOk b st n->RunOk b (ZaJ b Zad st l) (n+l.length)
 |[],st,n,h=>h
 |i::l,st,n,h=>by
  have:=ZvG b Zad l (Za5 b Zad st i) (n+1) (ZES b Zad st i n h)
  rw[show n+(i::l).length=n+1+l.length by simp;omega]
  exact this
theorem ZMw {α:Type} (l:List α) (d:α) (i:Nat) (h:i<l.length):l.take (i+1)=l.take i++[l.getD i d]:=by
 rw[List.take_add_one,List.getD_eq_getElem?_getD,List.getElem?_eq_getElem h];rfl
theorem ZSC (b:BRDT) (l:List INPT) (r0:RUNT) (s0:SYST) (Zad:TC) (st:STT) (h:RunOk b st 0) (hl:l.length<=70000):
  runF false Zfg (λ_=>1000000000000) (l,(l.length:Int),0,b,r0,st.1,s0,Zad,st.2.1,st.2.2.1,st.2.2.2.1,st.2.2.2.2,())=
   some (false,(l,(l.length:Int),(l.length:Int),b,r0,(ZaJ b Zad st l).1,s0,Zad,(ZaJ b Zad st l).2.1,(ZaJ b Zad st l).2.2.1,(ZaJ b Zad st l).2.2.2.1,(ZaJ b Zad st l).2.2.2.2,())):=by
 obtain⟨r,hr,h1⟩:=ZN (fl:=false) (t:=Zfg) (fuel:=λ_=>1000000000000)
  (λa=>∃i:Nat,i<=l.length/\a=(l,(l.length:Int),(i:Int),b,r0,(ZaJ b Zad st (l.take i)).1,s0,Zad,(ZaJ b Zad st (l.take i)).2.1,(ZaJ b Zad st (l.take i)).2.2.1,(ZaJ b Zad st (l.take i)).2.2.2.1,(ZaJ b Zad st (l.take i)).2.2.2.2,()))
  (λa=>Int.toNat (a.2.1-a.2.2.1)) (λr=>r=(false,(l,(l.length:Int),(l.length:Int),b,r0,(ZaJ b Zad st l).1,s0,Zad,(ZaJ b Zad st l).2.1,(ZaJ b Zad st l).2.2.1,(ZaJ b Zad st l).2.2.2.1,(ZaJ b Zad st l).2.2.2.2,())))
  (by
   rintro a ⟨i,hi,rfl⟩
   by_cases hlt:i<l.length
   ·left
    have hk:=ZvG b Zad (l.take i) st 0 h
    have hv:=ZMY b l i r0 s0 Zad (ZaJ b Zad st (l.take i)) _ hk hlt (by omega) (by simp;omega)
    refine⟨_,hv,⟨i+1,hlt,?_⟩,by simp only;omega⟩
    have e:ZaJ b Zad st (l.take (i+1))=Za5 b Zad (ZaJ b Zad st (l.take i)) (R.get Zdt l (i:Int)):=by
     rw[ZMw l Zdt.dflt i hlt]
     simp only[ZaJ,List.foldl_append,List.foldl_cons,List.foldl_nil]
     rfl
    rw[e]
   ·right;left
    have e:i=l.length:=by omega
    subst e
    have d:decide ((l.length:Int)<(l.length:Int))=false:=decide_eq_false (by omega)
    rw[List.take_length]
    exact⟨_,by simp only[Zfg,RT.val,d,cond_false],rfl⟩)
  (l,(l.length:Int),0,b,r0,st.1,s0,Zad,st.2.1,st.2.2.1,st.2.2.2.1,st.2.2.2.2,()) ⟨0,Nat.zero_le _,rfl⟩ (by simp only;omega)
 rw[h1] at hr
 exact hr
def Zcf (b:BRDT):STT:=((wNew b).1,[],[],[],[])
def Z5 (b:BRDT):TC:=(wNew b).1.1.1
def Zzj:SYST:=((ZHw,0,[],(0,0,0,0),0,false),[],(0,false,false,false,false,0,0,false,false,false,false,false,0,0,0,0,0,0,0,false),(0,0,0),0,[])
theorem Zv8 (b:BRDT) (hg:smG b.2.1=true) (hm:smC b.2.2.2.2.2.2=true):ZrF b=true:=by
 unfold ZrF Zjj
 simp only[RT.val,hg,hm,Bool.or_true,cond_true]
 cases b.1 !=1&&b.1 !=2
 ·cases Zd4 b.2.1 !=0
  ·cases decide (b.2.2.1<0)||(decide (b.2.2.1>100)|| !vldB b.2.2.2.2.2.2)<;>rfl
  ·rfl
 ·rfl
def newS (b:BRDT):SYST:=((((newX b.1).1.1,(0,0,0,0,0,0,0,(false,false,false,false,false,false,false),0,0),false,false,false,(newX b.1).1.2.2.2.2.2.1,false,false,false,false,false,false,false),0,[],(1,0,0,4),1,false),
 normX b.2.2.2.2.2.2,(0,false,false,false,false,0,0,false,false,false,false,false,0,0,0,0,7,0,0,false),(0,0,0),0,[])
theorem ZrI (b:BRDT) (hg:smG b.2.1=true) (hm:b.2.2.2.2.2.2.length<=100000):ZRZ b=true/\(wNew b).2=ZcU b/\((wNew b).2=0->RunOk b (Zcf b) 0/\(wNew b).1.2.1=normX b.2.2.2.2.2.2):=by
 have hc:=smCb (l:=b.2.2.2.2.2.2) (by omega)
 have hv:(Zzm b).val=some (bif ZcU b !=0 then (Zzj,ZcU b) else ((newS b),0)):=by
  unfold Zzm
  simp only[RT.val,Zv8 b hg hc,hc,cond_true]
  cases ZcU b !=0<;>rfl
 refine⟨by simp only[ZRZ,hv];rfl,?_,?_⟩
 ·simp only[wNew,hv,getO]
  cases hx:ZcU b !=0
  ·simp at hx;exact hx.symm
  ·rfl
 ·intro h0
  have hx:(ZcU b !=0)=false:=by
   cases hx:ZcU b !=0
   ·rfl
   ·simp only[wNew,hv,getO,hx,cond_true] at h0
    rw[h0] at hx;simp at hx
  have e:wNew b=((newS b),0):=by
   simp only[wNew,hv,getO,hx,cond_false]
  have hn:=Zcl b.2.2.2.2.2.2
  unfold Zcf
  rw[e]
  exact⟨⟨hg,by show (normX b.2.2.2.2.2.2).length<=_;omega,Nat.le_refl _,Nat.le_refl _,Nat.le_refl _,Nat.le_refl _,Nat.le_refl _,Nat.le_refl _,λ_=>rfl⟩,rfl⟩
def endS (Zad:TC) (st:STT):RUNT:=
 (st.2.1,st.2.2.1,bif Zc3 st.1.1 then st.2.2.2.1++[(7,st.1.1.2.1,st.1.1.2.2.1,Zfe,false,false,false,false,0,0)] else st.2.2.2.1,bif Zc3 st.1.1 then st.2.2.2.2++[Zo7 Zad st.2.2.2.2] else st.2.2.2.2,st.1)
def Zds (b:BRDT) (l:List INPT):RUNT×Int:=bif (wNew b).2 !=0 then (([],[],[],[],Zzj),(wNew b).2) else (endS (Z5 b) (ZaJ b (Z5 b) (Zcf b) l),0)
theorem ZWL (b:BRDT) (l:List Int) (hg:smG b.2.1=true) (hm:b.2.2.2.2.2.2.length<=100000) (hl:l.length<=4000):ZRY b l=true/\wRun b l=Zds b (Zbj l):=by
 have hms:=mst
 have hd:=Zp3 l hl
 have hn:=ZrI b hg hm
 have hv:(ZK0 b l).val=some (Zds b (Zbj l)):=by
  unfold ZK0 Zds
  cases hx:(wNew b).2 !=0
  ·have h0:(wNew b).2=0:=by simpa using hx
   have hi:=(hn.2.2 h0).1
   have hf:=ZvG b (Z5 b) (Zbj l) (Zcf b) 0 hi
   have hr:=ZSC b (Zbj l) ([],[],[],[],Zzj) Zzj (Z5 b) (Zcf b) hi (by omega)
   have hr':runF false Zfg (λ_=>1000000000000) (Zbj l,iN (Zbj l).length,0,b,([],[],[],[],((0,(0,0,0,0,0,0,0,(false,false,false,false,false,false,false),0,0),false,false,false,0,false,false,false,false,false,false,false),0,[],(0,0,0,0),0,false),[],(0,false,false,false,false,0,0,false,false,false,false,false,0,0,0,0,0,0,0,false),(0,0,0),0,[]),(wNew b).1,(((0,(0,0,0,0,0,0,0,(false,false,false,false,false,false,false),0,0),false,false,false,0,false,false,false,false,false,false,false),0,[],(0,0,0,0),0,false),[],(0,false,false,false,false,0,0,false,false,false,false,false,0,0,0,0,0,0,0,false),(0,0,0),0,[]),(wNew b).1.1.1,[],[],[],[],())=some (false,(Zbj l,((Zbj l).length:Int),((Zbj l).length:Int),b,([],[],[],[],Zzj),(ZaJ b (Z5 b) (Zcf b) (Zbj l)).1,Zzj,Z5 b,(ZaJ b (Z5 b) (Zcf b) (Zbj l)).2.1,(ZaJ b (Z5 b) (Zcf b) (Zbj l)).2.2.1,(ZaJ b (Z5 b) (Zcf b) (Zbj l)).2.2.2.1,(ZaJ b (Z5 b) (Zcf b) (Zbj l)).2.2.2.2,())):=hr
   simp only[RT.val,hn.1,hd.1,hr',hx,okB,getO,cond_true,cond_false]
   obtain⟨st,hst⟩:∃st,ZaJ b (Z5 b) (Zcf b) (Zbj l)=st:=⟨_,rfl⟩
   rw[hst] at hf|-
   have hk:=hf.k
   have he:=hf.ev
   have hc:=hf.cp
   have hdl:=hd.2
   have hlc:=ZG4 (Z5 b) st.2.2.2.2 (by omega)
   have b1:Nat.ble (List.length st.1.1.2.2.1) most=true:=ZaF (by omega)
   have b2:∀x:EVTT,Nat.ble (List.length (st.2.2.2.1++[x])) most=true:=λx=>ZaF (by simp;omega)
   have b3:∀x:TC,Nat.ble (List.length (st.2.2.2.2++[x])) most=true:=λx=>ZaF (by simp;omega)
   simp only[hlc.1,hlc.2,b1,b2,b3,List.nil_append,Bool.or_true,Bool.not_true,Bool.false_or,cond_true]
   unfold endS
   cases Zc3 st.1.1<;>rfl
  ·simp only[RT.val,hn.1,hx,cond_true]
   rfl
 exact⟨by simp only[ZRY,hv];rfl,by simp only[wRun,hv,getO]⟩
end
end Go.Proofs.YtghoimllhpjkjaaGreat
open Go.Proofs.Tryz (prog)
open Go Go.S3 Go.Proofs
namespace Go.Proofs.YtghoimllhpjkjaaGreat
noncomputable section
abbrev ZvX:List Sh:=[Sh.agg ZF,Sh.agg ZbN]
abbrev ZvY:Rs:=Rs.one (Sh.agg ZF)
def ZDP (c:TC) (e:EVTT):RT TC:=
 .br (bif e.1==1 then e.1==1 else bif e.1==2 then e.1==2 else e.1==3) (.leaf (finX ((Zu c e.2.1).1,(Zu c e.2.1).2.1,(Zu c e.2.1).2.2.1,(Zu c e.2.1).2.2.2.1,(Zu c e.2.1).2.2.2.2.1,(Zu c e.2.1).2.2.2.2.2.1,e.2.2.2.2.2.1,e.2.2.2.2.1,e.2.2.2.2.2.2.2.1,e.2.2.2.2.2.2.1,(Zu c e.2.1).2.2.2.2.2.2.2.2.2.2) e.2.1 e.2.2.1 e.2.2.2.1)) (.br (e.1==4) (.leaf (((ZO c).1,((ZO c).2.1.1,(ZO c).2.1.2.1,(ZO c).2.1.2.2.1,(ZO c).2.1.2.2.2.1,(ZO c).2.1.2.2.2.2.1,(ZO c).2.1.2.2.2.2.2.1,(ZO c).2.1.2.2.2.2.2.2.1,(ZO c).2.1.2.2.2.2.2.2.2.1,(ZO c).2.1.2.2.2.2.2.2.2.2.1,0),false,false,false,(ZO c).2.2.2.2.2.1,false,false,false,false,false,false,false))) (.leaf (c)))
def ZHu (c:TC) (e:EVTT):TC:=(ZDP c e).val
def ZDQ:Entry:=Zg ZvX ZvY (λ_=>none) (λa=>ZHu a.1 a.2)
theorem ZpJ:Za prog 48 ZDQ:=
 pureQ 34359738527 [(77,ZGe),(110,ZiM),(111,Z0v)] [] ZvX ZvY ⟨ZJc,ZhN,ZYz,Tv⟩ Tryz.func48 Tryz.call48 trivial (t:=λa=>ZDP a.1 a.2)
abbrev ZpG:List Sh:=[Sh.agg ZF,Sh.agg ZbN]
abbrev Zji:Rs:=Rs.one (Sh.one (R.sl (RY)))
def ZKN:LS:={n:=67,slots:=[(2,.fix (A.loc 0 0)),(3,.fix (A.loc 1 0)),(5,.tip 0),(23,.code (Sh.one (R.sl (R.int u8)))),(24,.code (Sh.one (R.int i64))),(25,.code (Sh.one (R.int i64)))],boxes:=[[.many ZF],[.many ZbN]],stgs:=[⟨(RY),41,true⟩]}
def Zd0 (a:List Int×Int×Int×TC×EVTT×List TY×PUnit):RT (Option (Go1 (List Int×Int×Int×TC×EVTT×List TY×PUnit))):=
 let x1:=decide (0<=0)&&decide (0<=a.2.2.1)&&(decide (a.2.2.1=0)||decide (a.2.2.1<=iN (List.length a.2.2.2.2.1.2.2.1)))
 let x2:=Zj a.2.2.2.1 a.2.2.2.2.1.2.1 (subL a.2.2.2.2.1.2.2.1 0 a.2.2.1)
 let x3:= !x2.2
 let x4:=x2.1
 let x5:=x4.1
 let x6:=x4.2
 let x7:=x6.2
 let x8:List TY:=a.2.2.2.2.2.1++[(x5,x6.1,bif ZcG x5 then R.get (R.int u8) a.1 a.2.2.1 else x7.1,bif x5==1||x5==8 then ZfL a.2.2.2.1.1 (R.get (R.int u8) a.1 a.2.2.1) else x7.2)]
 .br (decide (a.2.2.1<a.2.1)) (.br (!Zf a.2.2.1 (List.length a.1)||(!x1||(x3||Nat.ble (List.length x8) most))) (.br (!Zf a.2.2.1 (List.length a.1)||x1) (.br (Zf a.2.2.1 (List.length a.1)) (.br (x3) (.leaf (some (Go1.brk (a.1,a.2.1,a.2.2.1,a.2.2.2.1,a.2.2.2.2.1,a.2.2.2.2.2.1,PUnit.unit)))) (.leaf (some (Go1.cont (a.1,a.2.1,i64.wrap (a.2.2.1+1),a.2.2.2.1,a.2.2.2.2.1,x8,PUnit.unit))))) (.leaf none)) (.leaf none)) (.leaf none)) (.leaf (some (Go1.brk (a.1,a.2.1,a.2.2.1,a.2.2.2.1,a.2.2.2.2.1,a.2.2.2.2.2.1,PUnit.unit))))
def Zry:Ora:=Zbm true ZKN Zd0 (λa=>1000000000000)
theorem Zze:Za1 (envX prog [(110,ZiM),(113,ZPs),(114,Zua),(115,Zuu)] [] 5119 8) (.block 1 (.loop (Zae Tryz.f51.body 1))) Zry:=
 loopP ⟨ZhN,ZGj,Zq6,Zq8,Tv⟩
def Zjh (c:TC) (e:EVTT):RT (Option (List TY)):=
 let x1:List Int×Int×Int×TC×EVTT×List TY×PUnit:=(e.2.2.1,iN (List.length e.2.2.1),0,Zu c e.2.1,e,[],())
 let x2:=runF true Zd0 (λa=>1000000000000) x1
 let x3:=getO (false,x1) x2
 .br (bif e.1==1 then e.1==1 else bif e.1==2 then e.1==2 else bif e.1==3 then e.1==3 else bif e.1==6 then e.1==6 else e.1==7) (.br (okB x2) (.br x3.1 (.leaf none) (.leaf (some x3.2.2.2.2.2.2.1))) (.leaf none)) (.leaf (some ([])))
def ZDO (c:TC) (e:EVTT):List TY:=getO Zji.dflt (Zjh c e).val
def ZvW (c:TC) (e:EVTT):Bool:=okB (Zjh c e).val
def ZUL:Entry:=Zg ZpG Zji (λa=>some (ZvW a.1 a.2)) (λa=>ZDO a.1 a.2)
theorem ZKM:Za prog 51 ZUL:=
 pureP 5119 [(110,ZiM),(113,ZPs),(114,Zua),(115,Zuu)] [(1,Zry)] ZpG Zji ⟨ZhN,ZGj,Zq6,Zq8,Tv⟩ Tryz.func51 Tryz.call51 ⟨Zze,Tv⟩ (t:=λa=>Zjh a.1 a.2)
abbrev ZpE:List Sh:=[Sh.agg ZF,Sh.one (R.sl ZbN)]
abbrev Zjd:Rs:=Rs.one (Sh.one (R.sl ZF))
def ZKJ:LS:={n:=23,slots:=[(2,.fix (A.loc 0 0)),(5,.tip 0),(8,.code (Sh.one (R.sl ZbN))),(9,.code (Sh.one (R.int i64))),(10,.code (Sh.one (R.int i64)))],boxes:=[[.many ZF]],stgs:=[⟨ZF,38,true⟩]}
def Zhg (a:List EVTT×Int×Int×TC×List TC×PUnit):RT (Option (Go1 (List EVTT×Int×Int×TC×List TC×PUnit))):=
 let x1:=ZHu a.2.2.2.1 (R.get ZbN a.1 a.2.2.1)
 let x2:List TC:=a.2.2.2.2.1++[x1]
 .br (decide (a.2.2.1<a.2.1)) (.br (!Zf a.2.2.1 (List.length a.1)||Nat.ble (List.length x2) most) (.br (Zf a.2.2.1 (List.length a.1)) (.leaf (some (Go1.cont (a.1,a.2.1,i64.wrap (a.2.2.1+1),x1,x2,PUnit.unit)))) (.leaf none)) (.leaf none)) (.leaf (some (Go1.brk (a.1,a.2.1,a.2.2.1,a.2.2.2.1,a.2.2.2.2.1,PUnit.unit))))
def Zrw:Ora:=Zbm false ZKJ Zhg (λa=>1000000000000)
theorem Zzb:Za1 (envX prog [(48,ZDQ)] [] 255 8) (.block 0 (.loop (Zae Tryz.f56.body 0))) Zrw:=
 loopP ⟨ZpJ,Tv⟩
def Zjc (c:TC) (l:List EVTT):RT (Option (List TC)):=
 let x1:=runF false Zhg (λa=>1000000000000) (l,iN (List.length l),0,c,[],())
 .br (okB x1) (.leaf (some (getO (false,l,iN (List.length l),0,c,[],()) x1).2.2.2.2.2.1)) (.leaf none)
def ZDM (c:TC) (l:List EVTT):List TC:=getO Zjd.dflt (Zjc c l).val
def ZvU (c:TC) (l:List EVTT):Bool:=okB (Zjc c l).val
def ZUJ:Entry:=Zg ZpE Zjd (λa=>some (ZvU a.1 a.2)) (λa=>ZDM a.1 a.2)
theorem ZKI:Za prog 56 ZUJ:=
 pureP 255 [(48,ZDQ)] [(0,Zrw)] ZpE Zjd ⟨ZpJ,Tv⟩ Tryz.func56 Tryz.call56 ⟨Zzb,Tv⟩ (t:=λa=>Zjc a.1 a.2)
def ZpY (k:Int):Bool:=k==1||(k==2||k==3)
def ZF8 (c:TC) (e:EVTT):TC:=(c.1,c.2.1,c.2.2.1,c.2.2.2.1,c.2.2.2.2.1,c.2.2.2.2.2.1,e.2.2.2.2.2.1,e.2.2.2.2.1,e.2.2.2.2.2.2.2.1,e.2.2.2.2.2.2.1,c.2.2.2.2.2.2.2.2.2.2)
def Za6 (c:TC) (e:EVTT):TC:=bif ZpY e.1 then finX (ZF8 (Zu c e.2.1) e) e.2.1 e.2.2.1 e.2.2.2.1 else bif e.1==4 then ZO c else c
theorem ZRQ (c:TC) (e:EVTT):ZHu c e=Za6 c e:=by
 unfold ZHu ZDP Za6 ZpY
 simp only[RT.val]
 cases e.1==1<;>cases e.1==2<;>cases e.1==3<;>cases e.1==4<;>rfl
def Zq2 (c:TC) (x:TY) (b:Int):TY:=(x.1,x.2.1,bif ZcG x.1 then b else x.2.2.1,bif x.1==1||x.1==8 then ZfL c.1 b else x.2.2.2)
def cyX (c:TC) (s:Int) (g:List Int):List Int->List TY
 |[]=>[]
 |b::r=>bif (Zj c s g).2 then Zq2 c (Zj c s g).1 b::cyX c s (g++[b]) r else []
def cycE (k:Int):Bool:=ZpY k||(k==6||k==7)
def ZbE (c:TC) (e:EVTT):List TY:=bif cycE e.1 then cyX (Zu c e.2.1) e.2.1 [] e.2.2.1 else []
theorem ZUC (c:TC) (s:Int) (g:List Int) (b:Int) (r:List Int):cyX c s g (b::r)=bif (Zj c s g).2 then Zq2 c (Zj c s g).1 b::cyX c s (g++[b]) r else []:=rfl
theorem ZZr (c:TC) (s:Int) (g:List Int):cyX c s g []=[]:=rfl
theorem ZWz {α:Type} {b:Bool} {x y z:α} (h:b=true) (e:x=z:=by rfl):(bif b then x else y)=z:=by rw[h];exact e
theorem ZRz (c:TC) (s:Int):∀(r g:List Int),(cyX c s g r).length<=r.length
 |[],g=>Nat.le_refl _
 |b::r,g=>by
  have:=ZRz c s r (g++[b])
  unfold cyX
  cases (Zj c s g).2
  ·exact Nat.zero_le _
  ·simp only[cond_true,List.length_cons];omega
theorem ZMA (g:List Int) (i:Nat):subL g 0 (i:Int)=g.take i:=by simp[subL]
theorem ZUw (g:List Int) (i:Nat) (h:i<g.length):g.drop i=R.get (R.int .u8) g (i:Int)::g.drop (i+1):=by
 rw[List.drop_eq_getElem_cons h]
 simp[R.get,List.getElem?_eq_getElem h]
theorem ZSs (g:List Int) (i:Nat) (h:i<g.length):g.take (i+1)=g.take i++[R.get (R.int .u8) g (i:Int)]:=by
 rw[List.take_add_one,List.getElem?_eq_getElem h]
 simp[R.get,List.getElem?_eq_getElem h]
theorem cyc_b (c:TC) (e:EVTT) (h:e.2.2.1.length<=1000000):ZvW c e=true/\ZDO c e=ZbE c e:=by
 have hms:=mst
 obtain⟨r,hr,h0,h1⟩:=ZN (fl:=true) (t:=Zd0) (fuel:=λ_=>1000000000000)
  (λa=>∃(i:Nat) (o:List TY),i<=e.2.2.1.length/\o.length<=i/\o++cyX (Zu c e.2.1) e.2.1 (e.2.2.1.take i) (e.2.2.1.drop i)=cyX (Zu c e.2.1) e.2.1 [] e.2.2.1/\a=(e.2.2.1,(e.2.2.1.length:Int),(i:Int),Zu c e.2.1,e,o,()))
  (λa=>Int.toNat (a.2.1-a.2.2.1)) (λr=>r.1=false/\r.2.2.2.2.2.2.1=cyX (Zu c e.2.1) e.2.1 [] e.2.2.1)
  (by
   rintro a ⟨i,o,hi,ho,hc,rfl⟩
   by_cases hlt:i<e.2.2.1.length
   ·have d:decide ((i:Int)<(e.2.2.1.length:Int))=true:=decide_eq_true (by omega)
    have hin:Zf (i:Int) e.2.2.1.length=true:=ZK.2 ⟨by omega,by omega⟩
    have w:IntKind.wrap .i64 ((i:Int)+1)=((i+1:Nat):Int):=by rw[wrap_i64 _ (by omega) (by omega)];omega
    have h0:(decide ((0:Int)<=0)&&decide ((0:Int)<=(i:Int))&&(decide ((i:Int)=0)||decide ((i:Int)<=iN e.2.2.1.length)))=true:=by
     have:(i:Int)<=iN e.2.2.1.length:=by simp only[iN];omega
     simp[this]
    have hb:∀x:TY,Nat.ble (o++[x]).length most=true:=λx=>ZaF (by simp;omega)
    rw[ZUw _ i hlt,ZUC] at hc
    cases hn:(Zj (Zu c e.2.1) e.2.1 (e.2.2.1.take i)).2
    ·right;left
     rw[hn] at hc
     simp only[cond_false,List.append_nil] at hc
     refine⟨(e.2.2.1,(e.2.2.1.length:Int),(i:Int),Zu c e.2.1,e,o,()),?_,rfl,hc⟩
     simp only[Zd0,RT.val,d,hin,ZMA,hn,hb,Bool.not_false,Bool.not_true,Bool.or_true,Bool.true_or,Bool.false_or,cond_true]
     exact ZWz h0
    ·left
     rw[hn] at hc
     simp only[cond_true] at hc
     refine⟨(e.2.2.1,(e.2.2.1.length:Int),((i+1:Nat):Int),Zu c e.2.1,e,o++[Zq2 (Zu c e.2.1) (Zj (Zu c e.2.1) e.2.1 (e.2.2.1.take i)).1 (R.get (R.int .u8) e.2.2.1 (i:Int))],()),?_,⟨i+1,_,by omega,by simp;omega,?_,rfl⟩,by simp only;omega⟩
     ·simp only[Zd0,RT.val,d,hin,w,ZMA,hn,hb,Bool.not_false,Bool.not_true,Bool.or_true,Bool.true_or,Bool.false_or,cond_true,cond_false]
      exact ZWz h0
     ·rw[ZSs _ i hlt,List.append_assoc]
      exact hc
   ·right;left
    have e1:i=e.2.2.1.length:=by omega
    subst e1
    have d:decide ((e.2.2.1.length:Int)<(e.2.2.1.length:Int))=false:=decide_eq_false (by omega)
    rw[List.take_length,List.drop_length,ZZr,List.append_nil] at hc
    exact⟨(e.2.2.1,(e.2.2.1.length:Int),(e.2.2.1.length:Int),Zu c e.2.1,e,o,()),by simp only[Zd0,RT.val,d,cond_false],rfl,hc⟩)
  (e.2.2.1,(e.2.2.1.length:Int),0,Zu c e.2.1,e,[],()) ⟨0,[],Nat.zero_le _,Nat.le_refl _,rfl,rfl⟩ (by simp only;omega)
 obtain⟨r1,r2⟩:=r
 simp only at h0 h1
 subst h0
 have hv:(Zjh c e).val=some (ZbE c e):=by
  unfold Zjh ZbE cycE ZpY
  simp only[RT.val,iN,hr,okB,getO,cond_true,cond_false,h1]
  cases e.1==1<;>cases e.1==2<;>cases e.1==3<;>cases e.1==6<;>cases e.1==7<;>rfl
 exact⟨by simp only[ZvW,hv];rfl,by simp only[ZDO,hv,getO]⟩
def Zfo (c:TC):List EVTT->List TC
 |[]=>[]
 |e::l=>Za6 c e::Zfo (Za6 c e) l
def Zbn (c:TC) (l:List EVTT):TC:=l.foldl Za6 c
theorem ZMx {r:R} (g:List r.den) (i:Nat) (h:i<g.length):g.take (i+1)=g.take i++[R.get r g (i:Int)]:=by
 rw[List.take_add_one,List.getElem?_eq_getElem h]
 simp[R.get,List.getElem?_eq_getElem h]
theorem ZDC {r:R} (g:List r.den) (i:Nat) (h:i<g.length):g.drop i=R.get r g (i:Int)::g.drop (i+1):=by
 rw[List.drop_eq_getElem_cons h]
 simp[R.get,List.getElem?_eq_getElem h]
theorem ZSL (T:List EVTT×Int×Int×TC×List TC×PUnit->RT (Option (Go1 (List EVTT×Int×Int×TC×List TC×PUnit))))
  (hT:∀(l:List EVTT) (n i:Int) (c:TC) (o:List TC),(T (l,n,i,c,o,())).val=bif decide (i<n) then (bif !Zf i l.length||Nat.ble (o++[Za6 c (R.get ZbN l i)]).length most then (bif Zf i l.length then some (.cont (l,n,IntKind.wrap .i64 (i+1),Za6 c (R.get ZbN l i),o++[Za6 c (R.get ZbN l i)],())) else none) else none) else some (.brk (l,n,i,c,o,())))
  (c:TC) (l:List EVTT) (h:l.length<=1000000):∃z,runF false T (λ_=>1000000000000) (l,(l.length:Int),0,c,[],())=some (false,(l,(l.length:Int),(l.length:Int),z,Zfo c l,())):=by
 have hms:=mst
 obtain⟨r,hr,z,h1⟩:=ZN (fl:=false) (t:=T) (fuel:=λ_=>1000000000000)
  (λa=>∃(i:Nat) (c':TC) (o:List TC),i<=l.length/\o.length=i/\o++Zfo c' (l.drop i)=Zfo c l/\a=(l,(l.length:Int),(i:Int),c',o,()))
  (λa=>Int.toNat (a.2.1-a.2.2.1)) (λr=>∃z,r=(false,(l,(l.length:Int),(l.length:Int),z,Zfo c l,())))
  (by
   rintro a ⟨i,c',o,hi,ho,hc,rfl⟩
   by_cases hlt:i<l.length
   ·left
    have d:decide ((i:Int)<(l.length:Int))=true:=decide_eq_true (by omega)
    have hin:Zf (i:Int) l.length=true:=ZK.2 ⟨by omega,by omega⟩
    have w:IntKind.wrap .i64 ((i:Int)+1)=((i+1:Nat):Int):=by rw[wrap_i64 _ (by omega) (by omega)];omega
    have hb:∀x:TC,Nat.ble (o++[x]).length most=true:=λx=>ZaF (by simp;omega)
    rw[ZDC (r:=ZbN) l i hlt] at hc
    refine⟨(l,(l.length:Int),((i+1:Nat):Int),Za6 c' (R.get ZbN l (i:Int)),o++[Za6 c' (R.get ZbN l (i:Int))],()),?_,⟨i+1,_,_,by omega,by simp;omega,?_,rfl⟩,by simp only;omega⟩
    ·rw[hT];simp only[d,hin,w,hb,Bool.or_true,cond_true]
    ·rw[List.append_assoc];exact hc
   ·right;left
    have e1:i=l.length:=by omega
    subst e1
    have d:decide ((l.length:Int)<(l.length:Int))=false:=decide_eq_false (by omega)
    rw[List.drop_length] at hc
    simp only[Zfo,List.append_nil] at hc
    subst hc
    exact⟨_,by rw[hT];simp only[d,cond_false],c',rfl⟩)
  (l,(l.length:Int),0,c,[],()) ⟨0,c,[],Nat.zero_le _,rfl,rfl,rfl⟩ (by simp only;omega)
 exact⟨z,by rw[<-h1];exact hr⟩
theorem ZZW (c:TC) (l:List EVTT) (h:l.length<=1000000):ZvU c l=true/\ZDM c l=Zfo c l:=by
 obtain⟨z,hr⟩:=ZSL Zhg (λl n i c o=>by simp only[Zhg,RT.val,ZRQ]) c l h
 have hv:(Zjc c l).val=some (Zfo c l):=by simp only[Zjc,RT.val,iN,hr,okB,getO,cond_true]
 exact⟨by simp only[ZvU,hv];rfl,by simp only[ZDM,hv,getO]⟩
def ZzZ (e:EVTT):Bool:=Nat.ble e.2.2.1.length 1000000
def ZSH {α:Type} (l:List α):Bool:=Nat.ble l.length 1000000
theorem ZSG {α:Type} {l:List α} (h:ZSH l=true):l.length<=1000000:=by simpa [ZSH] using h
theorem ZSI {e:EVTT} (h:ZzZ e=true):e.2.2.1.length<=1000000:=by simpa [ZzZ] using h
def ZvZ:Entry:=Zg ZvX ZvY (λ_=>none) (λa=>Za6 a.1 a.2)
theorem Zrz:Za Tryz.prog 48 ZvZ:=ZpJ.tot (λa h=>by simp) (λa h=>ZRQ a.1 a.2)
def ZpI:Entry:=Zg ZpG Zji (λa=>some (ZzZ a.2)) (λa=>ZbE a.1 a.2)
theorem ZpH:Za Tryz.prog 51 ZpI:=ZkQ ZKM λa h=>cyc_b a.1 a.2 (ZSI h)
def Zzc:Entry:=Zg ZpE Zjd (λa=>some (ZSH a.2)) (λa=>Zfo a.1 a.2)
theorem ZDL:Za Tryz.prog 56 Zzc:=ZkQ ZKI λa h=>ZZW a.1 a.2 (ZSG h)
abbrev ZaP:R:=R.int u8
abbrev ZaQ:Nat:=5
abbrev Zjl:List Sh:=[Sh.one (R.sl Zdt)]
def Zzr:LS:={n:=64,slots:=[(3,.tip 0),(7,.code (Sh.one (R.sl Zdt))),(8,.code (Sh.one (R.int i64))),(9,.code (Sh.one (R.int i64)))],boxes:=[],stgs:=[⟨(R.int u8),5,false⟩]}
def Zhy (a:List INPT×Int×Int×List Int×PUnit):RT (Option (Go1 (List INPT×Int×Int×List Int×PUnit))):=
 let x1:INPT:=R.get Zdt a.1 a.2.2.1
 let x2:= !x1.1
 let x3:=Zfh x2 0
 let x4:= !x3
 let x5:=x1.2
 let x6:=x5.1
 let x7:=Zfh x6 1
 let x8:= !x7
 let x9:=x5.2
 let x10:=x9.1
 let x11:=Zfh x10 2
 let x12:= !x11
 let x13:=x9.2
 let x14:=x13.1
 let x15:=Zfh x14 3
 let x16:= !x15
 let p2:=x16::x12::x8::x4::[]
 let x17:=x13.2
 let x18:=x17.1
 let x19:=Zfh x18 4
 let x20:= !x19
 let p3:=x20::p2
 let x21:=x17.2
 let x22:=x21.1
 let x23:=Zfh x22 5
 let x24:= !x23
 let p6:=x24::p3
 let x25:=x21.2
 let x26:=x25.1
 let x27:=Zfh x26 6
 let p8:=(!x27)::p6
 let x28:=x25.2
 let x29:=x28.1
 let x30:=orR p8 (Zfh x29 7)
 let x31:= !x30
 let x32:=orR p6 x27
 let x33:= !x32
 let p1:=x33::x31::(decide (a.2.2.1>=65536))::(!Zf a.2.2.1 (List.length a.1))::[]
 let x34:=orR p3 x23
 let x35:= !x34
 let p4:=x35::p1
 let x36:=orR p2 x19
 let x37:= !x36
 let p5:=x37::p4
 let x38:=x4||(x8||(x12||x15))
 let x39:= !x38
 let p7:=x39::p5
 let x40:=x4||(x8||x11)
 let x41:= !x40
 let p9:=x41::p7
 let x42:=x4||x7
 let x43:= !x42
 let p10:=x43::p9
 let p11:=x4::p10
 let x44:=orI u8 (orI u8 (orI u8 (orI u8 (orI u8 (orI u8 (orI u8 (wBit x2 0) (wBit x6 1)) (wBit x10 2)) (wBit x14 3)) (wBit x18 4)) (wBit x22 5)) (wBit x26 6)) (wBit x29 7)
 let x45:=x28.2
 let x46:=x45.1
 let x47:=x45.2
 let x48:List Int:=a.2.2.2.1++[x44,x46,x47,Zwi x44 x46 x47]
 .br (decide (a.2.2.1<a.2.1)) (.br (orR p11 (Nat.ble (List.length x48) most)) (.br (orR p10 x3) (.br (orR p9 x42) (.br (orR p7 x40) (.br (orR p5 x38) (.br (orR p4 x36) (.br (orR p1 x34) (.br (!Zf a.2.2.1 (List.length a.1)||(decide (a.2.2.1>=65536)||(x31||x32))) (.br (!Zf a.2.2.1 (List.length a.1)||(decide (a.2.2.1>=65536)||x30)) (.br (Zf a.2.2.1 (List.length a.1)) (.br (decide (a.2.2.1>=65536)) (.leaf (some (Go1.brk (a.1,a.2.1,a.2.2.1,a.2.2.2.1,PUnit.unit)))) (.leaf (some (Go1.cont (a.1,a.2.1,i64.wrap (a.2.2.1+1),x48,PUnit.unit))))) (.leaf none)) (.leaf none)) (.leaf none)) (.leaf none)) (.leaf none)) (.leaf none)) (.leaf none)) (.leaf none)) (.leaf none)) (.leaf none)) (.leaf (some (Go1.brk (a.1,a.2.1,a.2.2.1,a.2.2.2.1,PUnit.unit))))
def ZlK:Ora:=Zbm false Zzr Zhy (λa=>1000000000000)
theorem ZrL:Za1 (envX prog [(133,ZWR),(134,ZlO)] [] 127 8) (.block 0 (.loop (Zae Tryz.f70.body 0))) ZlK:=
 loopP ⟨ZLm,Zh8,Tv⟩
def ZfY (l:List INPT):RT (Option (List Int)):=
 let x1:=runF false Zhy (λa=>1000000000000) (l,iN (List.length l),0,[],())
 .br (okB x1) (.leaf (some (getO (false,l,iN (List.length l),0,[],()) x1).2.2.2.2.1)) (.leaf none)
def Zby (l:List INPT):List Int:=getO [] (ZfY l).val
def ZfZ (l:List INPT):Bool:=okB (ZfY l).val
def Zwd:Entry:=frzE (newE ZaP ZaQ Zjl (λa=>some (ZfZ a)) (λa=>Zby a))
theorem Zwe:Za prog 70 (newE ZaP ZaQ Zjl (λa=>some (ZfZ a)) (λa=>Zby a)):=
 Zlt (P:=prog) (n:=127) (k:=8) (l:=[(133,ZWR),(134,ZlO)]) (ol:=[(0,ZlK)]) ⟨ZLm,Zh8,Tv⟩ Tryz.func70 rfl (by kernel_rfl) Tryz.call70 ⟨ZrL,Tv⟩ (r:=ZaP) (T:=ZaQ) (ts:=Zjl) (t:=λa=>ZfY a) (λa=>by kernel_rfl)
theorem Zzq:Za prog 70 Zwd:=ZyU Zwe
abbrev Zoy:R:=R.pair (R.sl (R.int i64)) (R.int i64)
abbrev Zx9:List Sh:=[Sh.one (R.int i64)]
abbrev Zox:Rs:=Rs.one (Sh.one (R.sl (R.int u8)))
def Zg3 (s:List Int×Int) (n:Int):RT (Option (List Int×List Int×Int)):=
 let x1:=decide (iN (List.length (Stg.l (newG ZaP ZaQ (Zby (Zaj s n).1))))>0)
 let x2:=x1&&(Zd (Zaj s n).2 4).1==0
 let x3:= !x2
 let x4:List Int:=bif x1 then (Zd (Zaj s n).2 4).2.1 else (Zaj s n).2.1
 let x5:Int:=bif x1 then (Zd (Zaj s n).2 4).2.2 else (Zaj s n).2.2
 let x6:List Int×Int:=(x4,x5)
 let x7:=Zp x6 (iN (List.length (Stg.l (newG ZaP ZaQ (Zby (Zaj s n).1)))))
 let x8:= !x7
 let x9:=Zd x6 (iN (List.length (Stg.l (newG ZaP ZaQ (Zby (Zaj s n).1)))))
 let x10:=x9.1
 let x11:=Zf x10 (List.length (Stg.l (newG ZaP ZaQ (Zby (Zaj s n).1))))
 let x12:= !x11
 let x13:=x9.2
 let x14:=Zp x13 8
 let x15:= !x14
 let p1:=x15::x12::x8::x3::[]
 let x16:=Zd x13 8
 let x17:=x16.1
 let x18:=decide (0<=x17)
 let p2:=(!x18)::p1
 let x19:=x16.2
 .br (!ZiQ s n||ZfZ (Zaj s n).1) (.br (ZiQ s n) (.br (!x1||Zp (Zaj s n).2 4) (.br (orR p2 x11) (.br (orR p1 x18) (.br (x3||(x8||(x12||x14))) (.br (x3||(x8||x11)) (.br (x3||x7) (.leaf (some ((bif x2 then setI (Stg.l (newG ZaP ZaQ (Zby (Zaj s n).1))) x10 (xorI u8 (R.get (Stg.r (newG ZaP ZaQ (Zby (Zaj s n).1))) (Stg.l (newG ZaP ZaQ (Zby (Zaj s n).1))) x10) (shlI u8 1 x17)) else Stg.l (newG ZaP ZaQ (Zby (Zaj s n).1)),bif x2 then x19.1 else x4,bif x2 then x19.2 else x5)))) (.leaf none)) (.leaf none)) (.leaf none)) (.leaf none)) (.leaf none)) (.leaf none)) (.leaf none)) (.leaf none)
def Zc6 (s:List Int×Int) (n:Int):List Int×List Int×Int:=getO (Zox.dflt,Zoy.dflt) (Zg3 s n).val
def Zg4 (s:List Int×Int) (n:Int):Bool:=okB (Zg3 s n).val
def ZGI:Entry:=boxE Zoy Zx9 Zox (λa=>some (Zg4 a.1 a.2)) (λa=>Zc6 a.1 a.2)
theorem ZKd:Za prog 64 ZGI:=
 Zcs (P:=prog) (n:=63) (k:=8) (l:=[(46,ZcK),(70,Zwd),(71,ZGJ)]) (ol:=[]) ⟨Zbf,Zzq,ZKg,Tv⟩ Tryz.func64 rfl (by kernel_rfl) Tryz.call64 trivial (rb:=Zoy) (ts:=Zx9) (rs:=Zox) (t:=λa=>Zg3 a.1 a.2) (λa=>by kernel_rfl)
theorem ZRm:Zhy=ZdS:=by funext a;rfl
theorem ZR4 (l:List INPT) (hl:l.length<=1000):ZfZ l=true/\Zby l=ZlL l/\(Zby l).length=4*l.length:=by
 have h:=ZHz l hl
 have e:ZfY l=ZgK l:=by unfold ZfY ZgK;rw[ZRm]
 have e2:Zby l=ZlL l:=by
  unfold Zby ZlL;rw[e];rfl
 refine⟨by unfold ZfZ;rw[e];exact h.1,e2,by rw[e2];exact h.2⟩
theorem ZKe {s:List Int×Int} {k:Int} (h:NB s k) (hk:k<=50000) (n:Nat) (hn:n<=250):
  Zg4 s (n:Int)=true/\NB (Zc6 s (n:Int)).2 (k+10+30*n)/\(Zc6 s (n:Int)).1.length<=4*n/\∃m:Nat,(Zc6 s (n:Int)).1.length=4*m:=by
 have hms:=mst
 obtain⟨c1,b1,l1⟩:=ZKh h (by omega) n hn
 obtain⟨c2,e2,l2⟩:=ZR4 (Zaj s (n:Int)).1 (by omega)
 have hg:∀l:List Int,Stg.l (newG ZaP ZaQ l)=l:=λ_=>rfl
 have hr:∀l:List Int,Stg.r (newG ZaP ZaQ l)=R.int .u8:=λ_=>rfl
 obtain⟨L,hL⟩:∃L,L=Zby (Zaj s (n:Int)).1:=⟨_,rfl⟩
 rw[<-hL] at l2
 obtain⟨c3,b3,_⟩:=Zy b1 (by omega) 4 (by decide) (by decide)
 have b4:NB (bif decide (iN L.length>0) then (Zd (Zaj s (n:Int)).2 4).2.1 else (Zaj s (n:Int)).2.1,bif decide (iN L.length>0) then (Zd (Zaj s (n:Int)).2 4).2.2 else (Zaj s (n:Int)).2.2) (k+3+30*n):=by
  cases decide (iN L.length>0)
  ·exact b1.up (by omega)
  ·exact b3.up (by omega)
 obtain⟨s4,hs4⟩:∃s4:List Int×Int,s4=(bif decide (iN L.length>0) then (Zd (Zaj s (n:Int)).2 4).2.1 else (Zaj s (n:Int)).2.1,bif decide (iN L.length>0) then (Zd (Zaj s (n:Int)).2 4).2.2 else (Zaj s (n:Int)).2.2):=⟨_,rfl⟩
 rw[<-hs4] at b4
 have hv:∃l s',(Zg3 s (n:Int)).val=some (l,s')/\NB s' (k+10+30*n)/\l.length=L.length:=by
  by_cases hz:0<L.length
  ·have d:decide (iN L.length>0)=true:=decide_eq_true (by simp only[iN];omega)
   obtain⟨c5,b5,d0,d1⟩:=Zy b4 (by omega) (iN L.length) (by simp only[iN];omega) (by simp only[iN];omega)
   obtain⟨c6,b6,f0,f1⟩:=Zy b5 (by omega) 8 (by decide) (by decide)
   have r5:Zf (Zd s4 (iN L.length)).1 L.length=true:=ZK.2 ⟨d0,by simpa [iN] using d1⟩
   have e6:decide (0<=(Zd (Zd s4 (iN L.length)).2 8).1)=true:=decide_eq_true f0
   rw[d] at hs4
   simp only[cond_true] at hs4
   unfold Zg3
   simp only[RT.val,hg,hr,<-hL,c1,c2,d,c3,<-hs4,c5,r5,c6,e6,Zeh,ZcJ,Bool.true_and,Bool.not_true,Bool.or_true,Bool.false_or,cond_true]
   cases (Zd (Zaj s (n:Int)).2 4).1==0
   ·exact⟨_,_,rfl,b3.up (by omega),rfl⟩
   ·exact⟨_,_,rfl,b6.up (by omega),by simp only[cond_true,setI,List.length_set]⟩
  ·have d:decide (iN L.length>0)=false:=decide_eq_false (by simp only[iN];omega)
   rw[d] at hs4
   simp only[cond_false] at hs4
   unfold Zg3
   simp only[RT.val,hg,hr,<-hL,c1,c2,d,Zeh,ZcJ,Bool.false_and,Bool.not_true,Bool.not_false,Bool.true_or,Bool.or_true,Bool.false_or,cond_true,cond_false]
   exact⟨_,_,rfl,b1.up (by omega),rfl⟩
 obtain⟨l,s',hv,h1,h2⟩:=hv
 simp only[Zg4,Zc6,hv,okB,getO]
 exact⟨trivial,h1,by omega,(Zaj s (n:Int)).1.length,by omega⟩
abbrev Zrv:List Sh:=[Sh.agg ZF,Sh.one rcRG,Sh.one rcCE,Sh.agg ZbN]
abbrev Zkj:Rs:=Rs.one (Sh.one rcCE)
def ZDK:LS:={n:=48,slots:=[(1,.code (Sh.one rcRG)),(2,.code (Sh.one rcCE)),(25,.code (Sh.one (R.sl (RY)))),(26,.code (Sh.one (R.int i64))),(27,.code (Sh.one (R.int i64)))],boxes:=[[.many ZF],[.many ZbN]],stgs:=[]}
def Zew (a:List (QT4)×List (Int×Int)×List TY×Int×Int×TC×EVTT×PUnit):RT (Option (Go1 (List (QT4)×List (Int×Int)×List TY×Int×Int×TC×EVTT×PUnit))):=
 let x1:QT12:=R.get (RY) a.2.2.1 a.2.2.2.2.1
 let x2:=x1.1
 let x3:=x2==3||x2==5
 let x4:=x1.2
 let x5:TC×EVTT×PUnit:=(a.2.2.2.2.2.1,a.2.2.2.2.2.2.1,PUnit.unit)
 .br (decide (a.2.2.2.2.1<a.2.2.2.1)) (.br (!Zf a.2.2.2.2.1 (List.length a.2.2.1)||(!x3||smG a.1&&smC a.2.1)) (.br (Zf a.2.2.2.2.1 (List.length a.2.2.1)) (.leaf (some (Go1.cont (a.1,bif x3 then Zbw a.1 a.2.1 x4.1 x4.2.1 else a.2.1,a.2.2.1,a.2.2.2.1,i64.wrap (a.2.2.2.2.1+1),x5)))) (.leaf none)) (.leaf none)) (.leaf (some (Go1.brk (a.1,a.2.1,a.2.2.1,a.2.2.2.1,a.2.2.2.2.1,x5))))
def ZpC:Ora:=Zbm false ZDK Zew (λa=>1000000000000)
theorem ZvT:Za1 (envX prog [(51,ZpI),(187,Znz)] [] 2047 8) (.block 0 (.loop (Zae Tryz.f118.body 0))) ZpC:=
 loopP ⟨ZpH,Zny,Tv⟩
def ZgI (c:TC) (rg:List (QT4)) (m:List (Int×Int)) (e:EVTT):RT (Option (List (Int×Int))):=
 let x1:List (QT4)×List (Int×Int)×List TY×Int×Int×TC×EVTT×PUnit:=(rg,m,ZbE c e,iN (List.length (ZbE c e)),0,c,e,())
 let x2:=runF false Zew (λa=>1000000000000) x1
 .br (!e.1==5||smG rg&&smC m) (.br (e.1==5) (.leaf (some (Zbw rg m e.2.2.2.2.2.2.2.2.1 e.2.2.2.2.2.2.2.2.2))) (.br (ZzZ e) (.br (okB x2) (.leaf (some (getO (false,x1) x2).2.2.1)) (.leaf none)) (.leaf none))) (.leaf none)
def ZlE (c:TC) (rg:List (QT4)) (m:List (Int×Int)) (e:EVTT):List (Int×Int):=getO Zkj.dflt (ZgI c rg m e).val
def Zjb (c:TC) (rg:List (QT4)) (m:List (Int×Int)) (e:EVTT):Bool:=okB (ZgI c rg m e).val
def ZpD:Entry:=Zg Zrv Zkj (λa=>some (Zjb a.1 a.2.1 a.2.2.1 a.2.2.2)) (λa=>ZlE a.1 a.2.1 a.2.2.1 a.2.2.2)
theorem ZpB:Za prog 118 ZpD:=
 pureP 2047 [(51,ZpI),(187,Znz)] [(0,ZpC)] Zrv Zkj ⟨ZpH,Zny,Tv⟩ Tryz.func118 Tryz.call118 ⟨ZvT,Tv⟩ (t:=λa=>ZgI a.1 a.2.1 a.2.2.1 a.2.2.2)
abbrev ZpF:List Sh:=[Sh.agg ZF,Sh.one rcRG,Sh.one rcCE,Sh.one (R.sl ZbN)]
abbrev Zjf:Rs:=Rs.one (Sh.one rcCE)
def ZKL:LS:={n:=29,slots:=[(1,.code (Sh.one rcRG)),(2,.code (Sh.one rcCE)),(4,.fix (A.loc 0 0)),(13,.code (Sh.one (R.sl ZbN))),(14,.code (Sh.one (R.int i64))),(15,.code (Sh.one (R.int i64)))],boxes:=[[.many ZF]],stgs:=[]}
def Zfd (a:List (QT4)×List (Int×Int)×List EVTT×Int×Int×TC×PUnit):RT (Option (Go1 (List (QT4)×List (Int×Int)×List EVTT×Int×Int×TC×PUnit))):=
 let x1:EVTT:=R.get ZbN a.2.2.1 a.2.2.2.2.1
 .br (decide (a.2.2.2.2.1<a.2.2.2.1)) (.br (!Zf a.2.2.2.2.1 (List.length a.2.2.1)||Zjb a.2.2.2.2.2.1 a.1 a.2.1 x1) (.br (Zf a.2.2.2.2.1 (List.length a.2.2.1)) (.leaf (some (Go1.cont (a.1,ZlE a.2.2.2.2.2.1 a.1 a.2.1 x1,a.2.2.1,a.2.2.2.1,i64.wrap (a.2.2.2.2.1+1),Za6 a.2.2.2.2.2.1 x1,PUnit.unit)))) (.leaf none)) (.leaf none)) (.leaf (some (Go1.brk (a.1,a.2.1,a.2.2.1,a.2.2.2.1,a.2.2.2.2.1,a.2.2.2.2.2.1,PUnit.unit))))
def Zrx:Ora:=Zbm false ZKL Zfd (λa=>1000000000000)
theorem Zzd:Za1 (envX prog [(48,ZvZ),(117,ZDm),(118,ZpD)] [] 2047 8) (.block 0 (.loop (Zae Tryz.f58.body 0))) Zrx:=
 loopP ⟨Zrz,Zyv,ZpB,Tv⟩
def Zje (c:TC) (rg:List (QT4)) (m:List (Int×Int)) (l:List EVTT):RT (Option (List (Int×Int))):=
 let x1:List (QT4)×List (Int×Int)×List EVTT×Int×Int×TC×PUnit:=(rg,Cells.normX m,l,iN (List.length l),0,c,())
 let x2:=runF false Zfd (λa=>1000000000000) x1
 .br (smC m) (.br (okB x2) (.leaf (some (getO (false,x1) x2).2.2.1)) (.leaf none)) (.leaf none)
def ZDN (c:TC) (rg:List (QT4)) (m:List (Int×Int)) (l:List EVTT):List (Int×Int):=getO Zjf.dflt (Zje c rg m l).val
def ZvV (c:TC) (rg:List (QT4)) (m:List (Int×Int)) (l:List EVTT):Bool:=okB (Zje c rg m l).val
def ZUK:Entry:=Zg ZpF Zjf (λa=>some (ZvV a.1 a.2.1 a.2.2.1 a.2.2.2)) (λa=>ZDN a.1 a.2.1 a.2.2.1 a.2.2.2)
theorem ZKK:Za prog 58 ZUK:=
 pureP 2047 [(48,ZvZ),(117,ZDm),(118,ZpD)] [(0,Zrx)] ZpF Zjf ⟨Zrz,Zyv,ZpB,Tv⟩ Tryz.func58 Tryz.call58 ⟨Zzd,Tv⟩ (t:=λa=>Zje a.1 a.2.1 a.2.2.1 a.2.2.2)
abbrev ZG6:List Sh:=[Sh.agg (R.pair (R.int i64) (R.pair rcRG (R.pair (R.int i64) (R.pair (R.int u8) (R.pair (R.int u8) (R.pair R.bool rcCE))))))]
abbrev ZG7:Rs:=Rs.one (Sh.agg ZF)
def ZQR (b:BRDT):RT TC:=
 let x1:TR:=(0,0,0,0,0,0,0,(false,false,false,false,false,false,false),0,0)
 let x2:=ZO (b.1,x1,false,false,false,0,false,false,false,false,false,false,false)
 .leaf ((x2.1,x1,false,false,false,x2.2.2.2.2.2.1,false,false,false,false,false,false,false))
def ZkA (b:BRDT):TC:=(ZQR b).val
def ZDq:Entry:=Zg ZG6 ZG7 (λ_=>none) (λa=>ZkA a)
theorem ZyI:Za prog 60 ZDq:=
 pureQ 7 [(81,ZsD)] [] ZG6 ZG7 ⟨Zmv,Tv⟩ Tryz.func60 Tryz.call60 trivial (t:=λa=>ZQR a)
def ZeL:Entry:=.tree (ZS (envX prog [] [] 7 8) Tryz.f21)
theorem Zhl:Za prog 21 ZeL:=Zas (P:=prog) (n:=7) (k:=8) (l:=[]) (ol:=[]) trivial Tryz.func21 rfl (by kernel_rfl) Tryz.call21 trivial
abbrev ZQS:List Sh:=[Sh.one (R.sl (R.int i64)),Sh.one R.bool]
abbrev ZDr:Rs:=Rs.tup [Sh.agg (R.pair (R.int i64) (R.pair rcRG (R.pair (R.int i64) (R.pair (R.int u8) (R.pair (R.int u8) (R.pair R.bool rcCE)))))),Sh.agg (R.pair (R.sl ZM5) (R.pair (R.sl Zz5) (R.pair (R.sl ZbN) (R.pair (R.sl ZF) (R.pair (R.pair ZF (R.pair (R.int i64) (R.pair (R.sl (R.int u8)) (R.pair (RY) (R.pair (R.int i64) R.bool))))) (R.pair rcCE (R.pair Zbe (R.pair (R.pair (R.int u16) (R.pair (R.int u8) (R.int i64))) (R.pair (R.int i64) (R.sl (R.pair (R.int u8) (R.int u8))))))))))))]
def ZyJ (n:List Int) (h:Bool):RT (Option (BRDT×RUNT)):=
 let x1:BRDT:=((Zak (n,0)).1.1,(Zak (n,0)).1.2.1,(Zak (n,0)).1.2.2.1,(Zak (n,0)).1.2.2.2.1,bif !h then 240 else (Zak (n,0)).1.2.2.2.2.1,(Zak (n,0)).1.2.2.2.2.2)
 .br (ZoO (n,0)) (.br (!Zg4 (Zak (n,0)).2 90||ZRY x1 (Zc6 (Zak (n,0)).2 90).1) (.br (Zg4 (Zak (n,0)).2 90) (.leaf (some ((x1,(wRun x1 (Zc6 (Zak (n,0)).2 90).1).1)))) (.leaf none)) (.leaf none)) (.leaf none)
def ZDs (n:List Int) (h:Bool):BRDT×RUNT:=getO ZDr.dflt (ZyJ n h).val
def ZG9 (n:List Int) (h:Bool):Bool:=okB (ZyJ n h).val
def ZQT:Entry:=Zg ZQS ZDr (λa=>some (ZG9 a.1 a.2)) (λa=>ZDs a.1 a.2)
theorem ZG8:Za prog 54 ZQT:=
 pureP 1023 [(21,ZeL),(62,ZQx),(63,ZZw),(64,ZGI)] [] ZQS ZDr ⟨Zhl,ZQv,ZWK,ZKd,Tv⟩ Tryz.func54 Tryz.call54 trivial (t:=λa=>ZyJ a.1 a.2)
abbrev GT:=QT4
def wrY (g:List GT) (m:List Cell) (x:TY):List Cell:=bif x.1==3||x.1==5 then Zbw g m x.2.1 x.2.2.1 else m
def wrL (g:List GT) (m:List Cell) (l:List TY):List Cell:=l.foldl (wrY g) m
def wrE (c:TC) (g:List GT) (m:List Cell) (e:EVTT):List Cell:=bif e.1==5 then Zbw g m e.2.2.2.2.2.2.2.2.1 e.2.2.2.2.2.2.2.2.2 else wrL g m (ZbE c e)
def memF (g:List GT):TC->List Cell->List EVTT->List Cell
 |_,m,[]=>m
 |c,m,e::l=>memF g (Za6 c e) (wrE c g m e) l
def memX (c:TC) (g:List GT) (m:List Cell) (l:List EVTT):List Cell:=memF g c (normX m) l
def wgh:List EVTT->Nat
 |[]=>0
 |e::l=>e.2.2.1.length+1+wgh l
theorem ZWI (g:List GT) (m:List Cell) (x:TY):(wrY g m x).length<=m.length+1:=by
 have:=Zh2 g m x.2.1 x.2.2.1
 unfold wrY
 cases x.1==3||x.1==5
 ·exact Nat.le_succ _
 ·exact this
theorem Zzl (g:List GT):∀(l:List TY) (m:List Cell),(wrL g m l).length<=m.length+l.length
 |[],m=>Nat.le_refl _
 |x::l,m=>by
  have h1:=Zzl g l (wrY g m x)
  have h2:=ZWI g m x
  show (wrL g (wrY g m x) l).length<=_
  simp only[List.length_cons];omega
theorem ZHr (c:TC) (e:EVTT):(ZbE c e).length<=e.2.2.1.length:=by
 unfold ZbE
 cases cycE e.1
 ·exact Nat.zero_le _
 ·exact ZRz _ _ _ _
theorem ZKR (c:TC) (g:List GT) (m:List Cell) (e:EVTT):(wrE c g m e).length<=m.length+(e.2.2.1.length+1):=by
 have h1:=Zh2 g m e.2.2.2.2.2.2.2.2.1 e.2.2.2.2.2.2.2.2.2
 have h2:=Zzl g (ZbE c e) m
 have h3:=ZHr c e
 unfold wrE
 cases e.1==5<;>simp only[cond_true,cond_false]<;>omega
theorem ZRW (l:List EVTT) (i:Nat) (h:i<l.length):wgh (l.drop i)=(R.get ZbN l (i:Int)).2.2.1.length+1+wgh (l.drop (i+1)):=by
 rw[ZDC (r:=ZbN) l i h];rfl
theorem ZWG (g:List GT) (m:List Cell) (l:List TY) (i:Nat) (h:i<l.length):wrL g m (l.take (i+1))=wrY g (wrL g m (l.take i)) (R.get RY l (i:Int)):=by
 rw[ZMx (r:=RY) l i h];unfold wrL;rw[List.foldl_append];rfl
theorem smCm {l:List Cell} (h:l.length<=1000000000):smC l=true:=ZaF (by have:=mst;omega)
theorem wr_b (c:TC) (g:List GT) (m:List Cell) (e:EVTT) (hg:smG g=true) (hm:m.length+(e.2.2.1.length+1)<=1000000000) (he:e.2.2.1.length<=1000000):Zjb c g m e=true/\ZlE c g m e=wrE c g m e:=by
 have hms:=mst
 have hcl:=ZHr c e
 obtain⟨y,hy⟩:∃y,ZbE c e=y:=⟨_,rfl⟩
 rw[hy] at hcl
 obtain⟨r,hr,h1⟩:=ZN (fl:=false) (t:=Zew) (fuel:=λ_=>1000000000000)
  (λa=>∃i:Nat,i<=y.length/\a=(g,wrL g m (y.take i),y,(y.length:Int),(i:Int),c,e,()))
  (λa=>Int.toNat (a.2.2.2.1-a.2.2.2.2.1)) (λr=>r=(false,(g,wrL g m y,y,(y.length:Int),(y.length:Int),c,e,())))
  (by
   rintro a ⟨i,hi,rfl⟩
   by_cases hlt:i<y.length
   ·left
    have d:decide ((i:Int)<(y.length:Int))=true:=decide_eq_true (by omega)
    have hin:Zf (i:Int) y.length=true:=ZK.2 ⟨by omega,by omega⟩
    have w:IntKind.wrap .i64 ((i:Int)+1)=((i+1:Nat):Int):=by rw[wrap_i64 _ (by omega) (by omega)];omega
    have hl:=Zzl g (y.take i) m
    have hc:smC (wrL g m (y.take i))=true:=smCm (by rw[List.length_take] at hl;omega)
    refine⟨(g,wrL g m (y.take (i+1)),y,(y.length:Int),((i+1:Nat):Int),c,e,()),?_,⟨i+1,by omega,rfl⟩,by simp only;omega⟩
    rw[ZWG g m y i hlt]
    simp only[Zew,RT.val,d,hin,w,hg,hc,Bool.and_self,Bool.or_true,cond_true]
    rfl
   ·right;left
    have e1:i=y.length:=by omega
    subst e1
    have d:decide ((y.length:Int)<(y.length:Int))=false:=decide_eq_false (by omega)
    refine⟨(g,wrL g m y,y,(y.length:Int),(y.length:Int),c,e,()),?_,rfl⟩
    rw[List.take_length]
    simp only[Zew,RT.val,d,cond_false])
  (g,m,y,(y.length:Int),0,c,e,()) ⟨0,Nat.zero_le _,rfl⟩ (by simp only;omega)
 rw[h1] at hr
 have hre:ZzZ e=true:=ZaF he
 have hc0:smC m=true:=smCm (by omega)
 have hv:(ZgI c g m e).val=some (wrE c g m e):=by
  unfold ZgI wrE
  simp only[RT.val,hy,iN,hr,hre,hg,hc0,okB,getO,Bool.and_self,Bool.or_true,cond_true]
  cases e.1==5<;>rfl
 exact⟨by simp only[Zjb,hv];rfl,by simp only[ZlE,hv,getO]⟩
theorem mem_b (c:TC) (g:List GT) (m:List Cell) (l:List EVTT) (hg:smG g=true) (hm:m.length+wgh l<=1000000000) (hl:∀e∈l,e.2.2.1.length<=1000000) (hn:l.length<=1000000):
  ZvV c g m l=true/\ZDN c g m l=memX c g m l:=by
 have hms:=mst
 have hnl:=Zcl m
 obtain⟨r,hr,z,h1⟩:=ZN (fl:=false) (t:=Zfd) (fuel:=λ_=>1000000000000)
  (λa=>∃(i:Nat) (c':TC) (m':List Cell),i<=l.length/\m'.length+wgh (l.drop i)<=1000000000/\memF g c' m' (l.drop i)=memX c g m l/\a=(g,m',l,(l.length:Int),(i:Int),c',()))
  (λa=>Int.toNat (a.2.2.2.1-a.2.2.2.2.1)) (λr=>∃z,r=(false,(g,memX c g m l,l,(l.length:Int),(l.length:Int),z,())))
  (by
   rintro a ⟨i,c',m',hi,hw,hf,rfl⟩
   by_cases hlt:i<l.length
   ·left
    have d:decide ((i:Int)<(l.length:Int))=true:=decide_eq_true (by omega)
    have hin:Zf (i:Int) l.length=true:=ZK.2 ⟨by omega,by omega⟩
    have w:IntKind.wrap .i64 ((i:Int)+1)=((i+1:Nat):Int):=by rw[wrap_i64 _ (by omega) (by omega)];omega
    have hmem:R.get ZbN l (i:Int)∈l:=by
     have:R.get ZbN l (i:Int)=l[i]:=by simp[R.get,List.getElem?_eq_getElem hlt]
     rw[this];exact List.getElem_mem _
    rw[ZRW l i hlt] at hw
    obtain⟨k1,k2⟩:=wr_b c' g m' (R.get ZbN l (i:Int)) hg (by omega) (hl _ hmem)
    have hlen:=ZKR c' g m' (R.get ZbN l (i:Int))
    rw[ZDC (r:=ZbN) l i hlt] at hf
    refine⟨(g,wrE c' g m' (R.get ZbN l (i:Int)),l,(l.length:Int),((i+1:Nat):Int),Za6 c' (R.get ZbN l (i:Int)),()),?_,⟨i+1,_,_,by omega,by omega,hf,rfl⟩,by simp only;omega⟩
    simp only[Zfd,RT.val,d,hin,w,k1,k2,Bool.or_true,cond_true]
   ·right;left
    have e1:i=l.length:=by omega
    subst e1
    have d:decide ((l.length:Int)<(l.length:Int))=false:=decide_eq_false (by omega)
    rw[List.drop_length] at hf
    refine⟨(g,memX c g m l,l,(l.length:Int),(l.length:Int),c',()),?_,c',rfl⟩
    rw[<-hf]
    simp only[Zfd,RT.val,d,cond_false,memF])
  (g,normX m,l,(l.length:Int),0,c,()) ⟨0,c,normX m,Nat.zero_le _,by rw[List.drop_zero];omega,rfl,rfl⟩ (by simp only;omega)
 rw[h1] at hr
 have hc0:smC m=true:=smCm (by omega)
 have hv:(Zje c g m l).val=some (memX c g m l):=by
  simp only[Zje,RT.val,iN,hr,hc0,okB,getO,cond_true]
 exact⟨by simp only[ZvV,hv];rfl,by simp only[ZDN,hv,getO]⟩
def ZHL (g:List GT) (m:List Cell) (l:List EVTT):Bool:=smG g&&(Nat.ble (m.length+wgh l) 1000000000&&(Nat.ble l.length 1000000&&l.all ZzZ))
theorem ZwP {g:List GT} {m:List Cell} {l:List EVTT}:ZHL g m l=true↔smG g=true/\m.length+wgh l<=1000000000/\l.length<=1000000/\∀e∈l,e.2.2.1.length<=1000000:=by
 simp only[ZHL,ZzZ,Bool.and_eq_true,Nat.ble_eq,List.all_eq_true]
def Zjg:Entry:=Zg ZpF Zjf (λa=>some (ZHL a.2.1 a.2.2.1 a.2.2.2)) (λa=>memX a.1 a.2.1 a.2.2.1 a.2.2.2)
theorem Zh0:Za Tryz.prog 58 Zjg:=ZkQ ZKK λa h=>by
 obtain⟨h1,h2,h3,h4⟩:=ZwP.1 h
 exact mem_b a.1 a.2.1 a.2.2.1 a.2.2.2 h1 h2 h4 h3
abbrev Z0L:List Sh:=[]
abbrev ZY2:Rs:=Rs.one (Sh.one R.bool)
def kKbT:RT (Option (Bool)):=
 let x1:LINT×Bool×Bool×Bool×Bool×Int×Int:=((false,false,false,false,false,false,false,false,false),false,false,false,false,0,0)
 let x2:List EVTT:=[(1,0,[62,7],x1),(1,0,[50,5,0,7],x1),(4,0,[],x1)]
 let x3:TC:=(1,(0,0,0,0,0,0,0,(false,false,false,false,false,false,false),0,0),false,false,false,0,false,false,false,false,false,false,false)
 let x4:=Zfo x3 x2
 let x5:Nat:=List.length x4
 let x6:= !iN x5==3
 let x7:=Zf 1 x5
 let x8:=x6||x7
 let x9:= !x8
 let x10:TR:=(R.get ZF x4 1).2.1
 let x11:= !x10.1==7
 let x12:=x6||(x11||x7)
 let x13:= !x12
 let x14:= !x10.2.2.2.2.2.2.2.2.2==5
 let x15:=x6||(x11||(x14||Zf 2 x5))
 let p1:=(!(R.get ZF x4 2).2.1.2.2.2.2.2.2.2.2.2==0)::x14::x11::x6::(!x15)::x13::x9::[]
 .br (ZSH x2) (.br (ZHL [(0,65535,true,0)] [] x2) (.br (orR p1 (smC (memX x3 [(0,65535,true,0)] [] x2))) (.br (x9||(x13||x15)) (.br (x9||x12) (.br (x8) (.leaf (some (true))) (.leaf none)) (.leaf none)) (.leaf none)) (.leaf none)) (.leaf none)) (.leaf none)
def kKb:Bool:=getO ZY2.dflt (kKbT).val
def kKbC:Bool:=okB (kKbT).val
def kKbE:Entry:=Zg Z0L ZY2 (λa=>some (kKbC)) (λa=>kKb)
theorem ZWr:Za Tryz.prog 45 kKbE:=
 pureP 31 [(39,Zle),(56,Zzc),(58,Zjg)] [] Z0L ZY2 ⟨ZjC,ZDL,Zh0,Tv⟩ Tryz.func45 Tryz.call45 trivial (t:=λa=>kKbT)
theorem lvalB {t:RT (Option Bool)} (h:t.val=some true):okB t.val=true/\getO false t.val=true:=by rw[h];exact⟨rfl,rfl⟩
theorem ZyG:kKbC=true/\kKb=true:=lvalB (t:=kKbT) (by kernel_rfl)
theorem Zbx (e:EVTT) (c:TC) (l:LINT):Zff e c l=(e.1,e.2.1,e.2.2.1,l,c.2.2.2.2.2.2.2.1,c.2.2.2.2.2.2.1,c.2.2.2.2.2.2.2.2.2.1,c.2.2.2.2.2.2.2.2.1,e.2.2.2.2.2.2.2.2):=rfl
def EvB (ev:List EVTT) (n:Nat):Prop:=∀e∈ev,e.2.2.1.length<=n
theorem EvB.app {ev:List EVTT} {n:Nat} (h:EvB ev n) {e:EVTT} (he:e.2.2.1.length<=n):EvB (ev++[e]) n:=λx hx=>by
 rcases List.mem_append.1 hx with hx|hx
 ·exact h x hx
 ·rw[List.mem_singleton] at hx;subst hx;exact he
theorem EvB.mono {ev:List EVTT} {n m:Nat} (h:EvB ev n) (hn:n<=m):EvB ev m:=λe he=>Nat.le_trans (h e he) hn
theorem ZKG (c:CORT) (t d:Int):(ZeK c t d).length<=c.2.2.1.length+1:=by
 unfold ZeK
 cases t==3<;>simp
theorem evE_b {ev:List EVTT} {n:Nat} (h:EvB ev n) (c:CORT) (hc:c.2.2.1.length<=n) (l:LINT) (d:Int) (cell:Cell) (moved:Bool):EvB (evE ev c l d cell moved) (n+1):=by
 have h1:=h.mono (Nat.le_succ n)
 have h2:=ZKG c (Z3 c) d
 have e1:EvB (bif (finS c l d).2 then ev++[Zff (ZkP c.2.1,c.2.1,ZeK c (Z3 c) d,Zfe,false,false,false,false,0,0) (Zm c.1 l) l] else ev) (n+1):=by
  cases (finS c l d).2
  ·exact h1
  ·exact h1.app (by rw[Zbx];show (ZeK c (Z3 c) d).length<=_;omega)
 have e2:EvB (bif Zc3 c then ev++[Zff (6,c.2.1,c.2.2.1,Zfe,false,false,false,false,0,0) c.1 l] else ev) (n+1):=by
  cases Zc3 c
  ·exact h1
  ·exact h1.app (by rw[Zbx];show c.2.2.1.length<=_;omega)
 unfold evE
 dsimp only
 cases l.2.2.1
 ·cases moved
  ·exact e1
  ·exact e1.app (Nat.zero_le _)
 ·exact e2.app (by rw[Zbx];exact Nat.zero_le _)
theorem ZWv (b:BRDT) (Zad:TC):∀(l:List INPT) (st:STT) (n:Nat),RunOk b st n->EvB st.2.2.2.1 n->EvB (ZaJ b Zad st l).2.2.2.1 (n+l.length)
 |[],st,n,h,he=>he
 |i::l,st,n,h,he=>by
  have:=ZWv b Zad l (Za5 b Zad st i) (n+1) (ZES b Zad st i n h) (evE_b he st.1.1 h.k _ _ _ _)
  rw[show n+(i::l).length=n+1+l.length by simp;omega]
  exact this
theorem wgh_b (l:List EVTT) (n:Nat) (h:EvB l n):wgh l<=l.length*(n+1):=by
 induction l with
 |nil=>exact Nat.zero_le _
 |cons e l ih=>
  have h1:=h e List.mem_cons_self
  have h2:=ih λe he=>h e (List.mem_cons_of_mem _ he)
  simp only[wgh,List.length_cons,Nat.add_mul];omega
theorem ZZT (b:BRDT) (l:List INPT) (hg:smG b.2.1=true) (hm:b.2.2.2.2.2.2.length<=100000) (hl:l.length<=1000):
  (Zds b l).1.2.2.1.length<=2001/\EvB (Zds b l).1.2.2.1 1000/\(Zds b l).1.2.2.2.1.length<=2001:=by
 obtain⟨_,_,h0⟩:=ZrI b hg hm
 unfold Zds
 cases hx:(wNew b).2 !=0
 ·have h0:=(h0 (by simpa using hx)).1
  have hf:=ZvG b (Z5 b) l (Zcf b) 0 h0
  have hb:=ZWv b (Z5 b) l (Zcf b) 0 h0 (λe he=>by simp[Zcf] at he)
  rw[Nat.zero_add] at hf hb
  have h1:=hf.ev
  have h2:=hf.k
  have h3:=hf.cp
  have hb:=hb.mono hl
  show (endS (Z5 b) (ZaJ b (Z5 b) (Zcf b) l)).2.2.1.length<=2001/\EvB (endS (Z5 b) (ZaJ b (Z5 b) (Zcf b) l)).2.2.1 1000/\(endS (Z5 b) (ZaJ b (Z5 b) (Zcf b) l)).2.2.2.1.length<=2001
  unfold endS
  cases Zc3 (ZaJ b (Z5 b) (Zcf b) l).1.1
  ·exact⟨by simp only[cond_false];omega,hb,by simp only[cond_false];omega⟩
  ·refine⟨by simp;omega,hb.app (by show (ZaJ b (Z5 b) (Zcf b) l).1.1.2.2.1.length<=_;omega),by simp;omega⟩
 ·exact⟨by simp,λe he=>by simp at he,by simp⟩
def brdK (n:List Int) (h:Bool):BRDT:=((Zak (n,0)).1.1,(Zak (n,0)).1.2.1,(Zak (n,0)).1.2.2.1,(Zak (n,0)).1.2.2.2.1,(bif !h then 240 else (Zak (n,0)).1.2.2.2.2.1),(Zak (n,0)).1.2.2.2.2.2)
def scrK (n:List Int):List INPT:=Zbj (Zc6 (Zak (n,0)).2 90).1
theorem ZMP (n:List Int) (h:Bool):ZG9 n h=true/\ZDs n h=(brdK n h,(Zds (brdK n h) (scrK n)).1)/\smG (brdK n h).2.1=true/\(brdK n h).2.2.2.2.2.2.length<=200/\(scrK n).length<=90/\((brdK n h).1=1\/(brdK n h).1=2):=by
 obtain⟨c1,b1,⟨s1,bs1,hr⟩,hch,_,l,hl,hi⟩:=Zyi (ZRc n) (by omega)
 obtain⟨c2,_,l2⟩:=ZC9 bs1 (by omega)
 obtain⟨c3,b3,l3,_⟩:=ZKe b1 (by omega) 90 (by omega)
 have hg:smG (brdK n h).2.1=true:=by
  show smG (Zak (n,0)).1.2.1=true
  rw[hr];exact smGb (by omega)
 have hm:(brdK n h).2.2.2.2.2.2.length<=200:=by
  show (Zak (n,0)).1.2.2.2.2.2.2.length<=200
  rw[hi];exact Nat.le_trans (Zcl l) hl
 have hd:=(Zp3 (Zc6 (Zak (n,0)).2 90).1 (by have:(Zc6 (Zak (n,0)).2 90).1.length<=4*90:=l3;omega)).2
 have hsl:(scrK n).length<=90:=by
  unfold scrK
  rw[hd]
  have:(Zc6 (Zak (n,0)).2 90).1.length<=4*90:=l3
  omega
 obtain⟨w1,w2⟩:=ZWL (brdK n h) (Zc6 (Zak (n,0)).2 90).1 hg (by omega) (by have:(Zc6 (Zak (n,0)).2 90).1.length<=4*90:=l3;omega)
 have c3':Zg4 (Zak (n,0)).2 90=true:=c3
 have hv:(ZyJ n h).val=some (brdK n h,(Zds (brdK n h) (scrK n)).1):=by
  have e:((Zak (n,0)).1.1,(Zak (n,0)).1.2.1,(Zak (n,0)).1.2.2.1,(Zak (n,0)).1.2.2.2.1,(bif !h then 240 else (Zak (n,0)).1.2.2.2.2.1),(Zak (n,0)).1.2.2.2.2.2)=brdK n h:=rfl
  simp only[ZyJ,RT.val,c1,c3',e,w1,w2,Bool.or_true,cond_true]
  rfl
 exact⟨by simp only[ZG9,hv];rfl,by simp only[ZDs,hv,getO],hg,hm,hsl,hch⟩
end
end Go.Proofs.YtghoimllhpjkjaaGreat
