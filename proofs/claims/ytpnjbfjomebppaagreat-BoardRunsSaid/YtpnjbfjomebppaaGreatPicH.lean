import Derived.Test.YtpnjbfjomebppaaGreatIsaQ
open Go.IntKind (u8 u16 i64)
open Go Go.S3 Go.Proofs Go.Proofs.Cells
set_option linter.unusedVariables false
set_option linter.unusedSimpArgs false
set_option maxRecDepth 100000
namespace Go.Proofs.YtpnjbfjomebppaaGreat
noncomputable section
theorem smCb {l:List Cell} (h:l.length<=1000000):smC l=true:=Zai (by have:=mst;omega)
theorem smGb {l:List Z9} (h:l.length<=1000000):smG l=true:=Zai (by have:=mst;omega)
def Zv (b:BRDT) (s:SYST) (i:INPT):SYST:=(s.1,s.2.1,(bif !b.2.2.2.2.2.1 then ZgW s.2.2.1 i.2.2.2.2.2.2.2.2.1 else s.2.2.1),s.2.2.2)
def Zb5 (b:BRDT) (s:SYST) (i:INPT):LINT:=
 (i.1&&decide (Zbz s>=ZMI b s.1.2.2.2.1),i.2.1||ZQ s.2.2.2.1,i.2.2.1,i.2.2.2.1,i.2.2.2.2.1,i.2.2.2.2.2.1,i.2.2.2.2.2.2.1,i.2.2.2.2.2.2.2.1,
  bif b.2.2.2.2.2.1 then andI .u8 i.2.2.2.2.2.2.2.2.1 1==1 else vInt s.2.2.1)
def busS (b:BRDT) (s:SYST) (i:INPT):SYST×Int:=
 let x:=s.1.2.2.2.1
 let q:=ZbI b (IntKind.wrap .u8 x.2.1)
 let d:=ZdS b (IntKind.wrap .u8 x.2.1)
 bif i.2.2.1||(Zp s.1 !=3|| !Zbi x.1) then (s,0) else
 bif decide (x.1>=1)&&decide (x.1<=5) then (s,ZfM b.2.1 s.2.1 x.2.1) else
 bif x.1 !=6&&b.2.2.2.2.2.1 then (s,i.2.2.2.2.2.2.2.2.2) else
 bif x.1 !=6 then ((s.1,s.2.1,(vAck s.2.2.1).1,s.2.2.2),(vAck s.2.2.1).2) else
 bif q.2 then ((s.1,s.2.1,(Zmw s.2.2.1 q.1).1,s.2.2.2),(Zmw s.2.2.1 q.1).2) else
 bif d.2 then (s,Zjk s.2.2.2.1 d.1) else (s,i.2.2.2.2.2.2.2.2.2)
def Zg0 (b:BRDT) (s:SYST) (x:TY):SYST:=
 let q:=ZbI b (IntKind.wrap .u8 x.2.1)
 let d:=ZdS b (IntKind.wrap .u8 x.2.1)
 bif x.1 !=7 then (s.1,Zbn b.2.1 s.2.1 x.2.1 x.2.2.1,s.2.2) else
 (s.1,s.2.1,(bif q.2 then Zjj s.2.2.1 q.1 x.2.2.1 else s.2.2.1),(bif q.2 then s.2.2.2.1 else bif d.2 then Zgb s.2.2.2.1 d.1 x.2.2.1 else s.2.2.2.1),s.2.2.2.2.1,
  s.2.2.2.2.2++[(IntKind.wrap .u8 x.2.1,x.2.2.1)])
def Z4I (p:PICT) (n:Int):PICT:=
 (p.1,p.2.1,p.2.2.1,p.2.2.2.1,p.2.2.2.2.1,p.2.2.2.2.2.1,p.2.2.2.2.2.2.1,p.2.2.2.2.2.2.2.1,p.2.2.2.2.2.2.2.2.1,p.2.2.2.2.2.2.2.2.2.1,p.2.2.2.2.2.2.2.2.2.2.1,p.2.2.2.2.2.2.2.2.2.2.2.1,
  p.2.2.2.2.2.2.2.2.2.2.2.2.1,p.2.2.2.2.2.2.2.2.2.2.2.2.2.1,p.2.2.2.2.2.2.2.2.2.2.2.2.2.2.1,p.2.2.2.2.2.2.2.2.2.2.2.2.2.2.2.1,p.2.2.2.2.2.2.2.2.2.2.2.2.2.2.2.2.1,n,p.2.2.2.2.2.2.2.2.2.2.2.2.2.2.2.2.2.2)
def ZhD (p:PINT):Bool:=p.2.2.2.2.2.2.2.2.2.2.2.2.2.2.2.1
def ZiC (s:SYST) (i:INPT):Bool:= !i.2.2.1&&(Zp s.1==3&&Zce s.1.2.2.2.1.1)
def Zfu (b:BRDT) (s:SYST) (i:INPT):SYST:=
 let t:=Zv b s i
 let u:=busS b t i
 ((ZX u.1.1 (Zb5 b t i) u.2),u.1.2.1,u.1.2.2.1,u.1.2.2.2.1,Zbz t,u.1.2.2.2.2.2)
def Zdq (b:BRDT) (s:SYST) (i:INPT):SYST:=bif ZiC s i then Zg0 b (Zfu b s i) s.1.2.2.2.1 else Zfu b s i
def pinS (b:BRDT) (s:SYST) (i:INPT):PINT:=Zcu (busS b (Zv b s i) i).1.1 (Zb5 b (Zv b s i) i) (busS b (Zv b s i) i).2
def Zed (b:BRDT) (s:SYST) (i:INPT):Bool:=ZhD (pinS b s i)&&ZQ (Zdq b s i).2.2.2.1
def Zkd (b:BRDT) (s:SYST) (i:INPT):SYST:=
 let w:=Zdq b s i
 bif Zed b s i then (w.1,Zbn b.2.1 w.2.1 w.2.2.2.1.1 w.2.2.2.1.2.1,w.2.2.1,(IntKind.wrap .u16 (w.2.2.2.1.1+1),w.2.2.2.1.2.1,IntKind.wrap .i64 (w.2.2.2.1.2.2-1)),w.2.2.2.2) else w
def ZAs (s:SYST) (r:Bool):SYST:=bif r then (s.1,s.2.1,Z4I s.2.2.1 0,(s.2.2.2.1.1,s.2.2.2.1.2.1,0),s.2.2.2.2) else s
def Za1 (b:BRDT) (s:SYST) (i:INPT):SYST×PINT×LINT×Int×Cell×Bool:=
 (ZAs (Zkd b s i) i.2.2.1,pinS b s i,Zb5 b (Zv b s i) i,(busS b (Zv b s i) i).2,
  (bif Zed b s i then ((Zdq b s i).2.2.2.1.1,(Zdq b s i).2.2.2.1.2.1) else (0,0)),Zed b s i)
theorem ZYP (b:BRDT) (x:TY) (hg:smG b.2.1=true):ZID b x=true:=by
 unfold ZID ZsB;simp only[RT.val,hg,Yh,Ya];cases decide (x.1>=1)&&decide (x.1<=5)
 ·cases x.1==6||x.1==7<;>rfl
 ·rfl
theorem ZMK (b:BRDT) (s:SYST) (i:INPT) (hg:smG b.2.1=true):ZmJ b s i=true/\ZuB b s i=Zb5 b s i:=by
 have hv:(Zjg b s i).val=some (Zb5 b s i):=by unfold Zjg Zb5;simp only[RT.val,Z4o,ZYP b _ hg,Yh,Ya,Yan]
 exact⟨by simp only[ZmJ,hv];rfl,by simp only[ZuB,hv,getO]⟩
theorem Z4f (b:BRDT) (s:SYST) (i:INPT) (hg:smG b.2.1=true) (hc:smC s.2.1=true):ZYS b s i=true/\wBus b s i=busS b s i:=by
 have hv:(ZQY b s i).val=some (busS b s i):=by
  unfold ZQY busS;simp only[RT.val,ZRs,ZIV,ZRa,hg,hc,ZaV,Zao,R.sel_eq,YV,Yh,Ye,Yi,Ya];cases i.2.2.1||(Zp s.1 !=3|| !Zbi s.1.2.2.2.1.1)
  ·cases decide (s.1.2.2.2.1.1>=1)&&decide (s.1.2.2.2.1.1<=5)
   ·cases s.1.2.2.2.1.1 !=6
    ·cases (ZbI b (IntKind.wrap .u8 s.1.2.2.2.1.2.1)).2
     ·cases (ZdS b (IntKind.wrap .u8 s.1.2.2.2.1.2.1)).2<;>rfl
     ·rfl
    ·cases b.2.2.2.2.2.1<;>rfl
   ·rfl
  ·rfl
 exact⟨by simp only[ZYS,hv];rfl,by simp only[wBus,hv,getO]⟩
theorem ZQE (b:BRDT) (s:SYST) (x:TY) (hg:smG b.2.1=true) (hc:smC s.2.1=true) (ho:s.2.2.2.2.2.length<=1000000):Zuy b s x=true/\ZIA b s x=Zg0 b s x:=by
 have hms:=mst;have h1:Nat.ble (List.length s.2.2.2.2.2) most=true:=Zai (by omega);have h2:∀y:Int×Int,Nat.ble (List.length (s.2.2.2.2.2++[y])) most=true:=λy=>Zai (by simp;omega)
 have hv:(ZnH b s x).val=some (Zg0 b s x):=by
  unfold ZnH Zg0;simp only[RT.val,ZzP,h1,h2,hg,hc,R.sel_eq,YV,Yh,Ye,Yi,Ya,List.nil_append];cases x.1 !=7
  ·rfl
  ·rfl
 exact⟨by simp only[Zuy,hv];rfl,by simp only[ZIA,hv,getO]⟩
theorem ZkA (b:BRDT) (s:SYST) (i:INPT):(busS b s i).1.1=s.1/\(busS b s i).1.2.1=s.2.1/\(busS b s i).1.2.2.2=s.2.2.2:=by
 unfold busS;dsimp only;cases i.2.2.1||(Zp s.1 !=3|| !Zbi s.1.2.2.2.1.1)
 ·cases decide (s.1.2.2.2.1.1>=1)&&decide (s.1.2.2.2.1.1<=5)
  ·cases s.1.2.2.2.1.1 !=6
   ·cases (ZbI b (IntKind.wrap .u8 s.1.2.2.2.1.2.1)).2
    ·cases (ZdS b (IntKind.wrap .u8 s.1.2.2.2.1.2.1)).2<;>exact⟨rfl,rfl,rfl⟩
    ·exact⟨rfl,rfl,rfl⟩
   ·cases b.2.2.2.2.2.1<;>exact⟨rfl,rfl,rfl⟩
  ·exact⟨rfl,rfl,rfl⟩
 ·exact⟨rfl,rfl,rfl⟩
theorem ZAb (b:BRDT) (s:SYST) (x:TY):(Zg0 b s x).1=s.1/\(Zg0 b s x).2.1.length<=s.2.1.length+1/\(Zg0 b s x).2.2.2.2.2.length<=s.2.2.2.2.2.length+1:=by
 have:=ZnD b.2.1 s.2.1 x.2.1 x.2.2.1;unfold Zg0;dsimp only;cases x.1 !=7
 ·exact⟨rfl,by simp only[Yc];omega,by simp only[Yc];simp⟩
 ·exact⟨rfl,by simp only[Ya];omega,by simp only[Ya];omega⟩
theorem ZMr (b:BRDT) (s:SYST) (i:INPT):(Zfu b s i).2.1=s.2.1/\(Zfu b s i).2.2.2.2.2=s.2.2.2.2.2:=by have h:=ZkA b (Zv b s i) i;unfold Zfu;simp only[h.1,h.2.1,h.2.2];exact⟨rfl,rfl⟩
theorem Zzs (b:BRDT) (s:SYST) (i:INPT):(Zdq b s i).1=(Zfu b s i).1/\(Zdq b s i).2.1.length<=s.2.1.length+1/\(Zdq b s i).2.2.2.2.2.length<=s.2.2.2.2.2.length+1:=by
 have h1:=ZMr b s i;have h2:=ZAb b (Zfu b s i) s.1.2.2.2.1;rw[h1.1,h1.2] at h2;unfold Zdq;cases ZiC s i
 ·exact⟨rfl,by simp only[Yc,h1.1];omega,by simp only[Yc,h1.2];omega⟩
 ·exact h2
theorem ZC3 (b:BRDT) (s:SYST) (i:INPT):(Za1 b s i).1.1=(Zfu b s i).1/\(Za1 b s i).1.2.1.length<=s.2.1.length+2/\(Za1 b s i).1.2.2.2.2.2.length<=s.2.2.2.2.2.length+1:=by have h1:=Zzs b s i;have h2:=ZnD b.2.1 (Zdq b s i).2.1 (Zdq b s i).2.2.2.1.1 (Zdq b s i).2.2.2.1.2.1;unfold Za1 ZAs Zkd;dsimp only;cases Zed b s i<;>cases i.2.2.1<;>simp only[Ya,Yc]<;>exact⟨h1.1,by omega,h1.2.2⟩
theorem ZQU (b:BRDT) (s:SYST) (i:INPT) (hg:smG b.2.1=true) (hc:s.2.1.length<=900000) (ho:s.2.2.2.2.2.length<=900000) (hk:s.1.2.2.1.length<=900000):
  ZuG b s i=true/\ZIM b s i=Za1 b s i:=by
 have hms:=mst;have hv:(ZnR b s i).val=some (Za1 b s i):=by
  have hr:(s.1,s.2.1,(bif !b.2.2.2.2.2.1 then ZgW s.2.2.1 i.2.2.2.2.2.2.2.2.1 else s.2.2.1),s.2.2.2)=Zv b s i:=rfl;have h1:=ZMK b (Zv b s i) i hg;have h2:=Z4f b (Zv b s i) i hg (smCb (by show s.2.1.length<=_;omega));have h3:=ZkA b (Zv b s i) i;have h4:Zjt (busS b (Zv b s i) i).1.1=true:=by rw[h3.1];exact ZdT.2 (by show s.1.2.2.1.length+1<=_;omega)
  have h5:=ZMr b s i;have h6:=ZQE b (Zfu b s i) s.1.2.2.2.1 hg (smCb (by rw[h5.1];omega)) (by rw[h5.2];omega);have h7:=Zzs b s i
  have hcs:(ZX (busS b (Zv b s i) i).1.1 (Zb5 b (Zv b s i) i) (busS b (Zv b s i) i).2,(busS b (Zv b s i) i).1.2.1,(busS b (Zv b s i) i).1.2.2.1,(busS b (Zv b s i) i).1.2.2.2.1,Zbz (Zv b s i),
   (busS b (Zv b s i) i).1.2.2.2.2.2)=Zfu b s i:=rfl
  have ht:∀d:QT4,ZaL d=bif ZQ d then ((IntKind.wrap .u16 (d.1+1),d.2.1,IntKind.wrap .i64 (d.2.2-1)),(d.1,d.2.1),true) else ((0,0,0),(0,0),false):=λd=>by unfold ZaL ZfE;simp only[RT.val];cases ZQ d<;>rfl
  have h8:smC (Zg0 b (Zfu b s i) s.1.2.2.2.1).2.1=true:=smCb (by have:=(ZAb b (Zfu b s i) s.1.2.2.2.1).2.1;rw[h5.1] at this;omega);have h9:smC (busS b (Zv b s i) i).1.2.1=true:=smCb (by rw[h3.2.1];show s.2.1.length<=_;omega);unfold ZnR;simp only[hr,RT.val,h1.1,h1.2,h2.1,h2.2,h4,clkX,hcs,h6.1,h6.2,ht,R.sel_eq,Yh,Ya];unfold Za1 ZAs Zkd Zed Zdq ZiC pinS ZhD;dsimp only;cases !i.2.2.1&&(Zp s.1==3&&Zce s.1.2.2.2.1.1)
  ·simp only[Yc,h9,hg,YV,Yh,Ya];cases (Zcu (busS b (Zv b s i) i).1.1 (Zb5 b (Zv b s i) i) (busS b (Zv b s i) i).2).2.2.2.2.2.2.2.2.2.2.2.2.2.2.2.1
   ·cases i.2.2.1<;>rfl
   ·have e:ZQ ((busS b (Zv b s i) i).1.2.2.2.1.1,(busS b (Zv b s i) i).1.2.2.2.1.2.1,(busS b (Zv b s i) i).1.2.2.2.1.2.2)=ZQ (Zfu b s i).2.2.2.1:=rfl;rw[e];cases ZQ (Zfu b s i).2.2.2.1<;>cases i.2.2.1<;>rfl
  ·simp only[Ya,h8,hg,YV,Yh];cases (Zcu (busS b (Zv b s i) i).1.1 (Zb5 b (Zv b s i) i) (busS b (Zv b s i) i).2).2.2.2.2.2.2.2.2.2.2.2.2.2.2.2.1
   ·cases i.2.2.1<;>rfl
   ·cases ZQ (Zg0 b (Zfu b s i) s.1.2.2.2.1).2.2.2.1<;>cases i.2.2.1<;>rfl
 exact⟨by simp only[ZuG,hv];rfl,by simp only[ZIM,hv,getO]⟩
def ZcJ {α:Type} (l:List α) (f:α->α):List α:=match l.getLast? with
 |some y=>l.dropLast++[f y]
 |none=>[]
variable {α:Type}
theorem ZbY (l:List α) (y:α) (f:α->α):ZcJ (l++[y]) f=l++[f y]:=by simp[ZcJ]
def ZCD (ZJ:TC) (l:List TC):TC:=l.getLastD ZJ
theorem ZnE (l:List α) (y:α) (h:l.length<=1000000):IntKind.wrap .i64 (iN (l++[y]).length-1)=(l.length:Int):=by simp only[iN,Le,Yd,List.length_cons,List.length_nil];rw[wrap_i64 _ (by omega) (by omega)];omega
theorem Znu {r:R} (l:List r.den) (y:r.den):R.get r (l++[y]) (l.length:Int)=y:=by simp[R.get]
theorem ZhW (l:List α) (y z:α):setI (l++[y]) (l.length:Int) z=l++[z]:=by simp[setI]
theorem ZmT (l:List α) (y:α):Ze (l.length:Int) (l++[y]).length=true:=ZF.2 ⟨by omega,by simp;omega⟩
def Zst (t:Int):Int:=bif t==8 then 2 else bif t==9 then 3 else bif t==10 then 4 else 1
def cycN (c:CORT) (t:Int) (x:TY):TY:=bif t==8 then (0,0,0,0) else bif t==9 then (0,c.1.2.1.2.2.2.2.2.2.2.2.2,0,0) else bif t==10 then (0,0,0,0) else x
def ZXA (c:CORT):Bool:=c.1.2.2.1
def sodC (c:CORT):Bool:=c.1.2.2.2.2.2.2.2.2.2.2.2.2
def Z4M (y:ITMT) (k:Int) (c:CORT):Bool:=y.1==k&&(y.2.2.2.2.1==ZXA c&&y.2.2.2.2.2==sodC c)
def Z8B (y:ITMT):ITMT:=(y.1,y.2.1,y.2.2.1,IntKind.wrap .i64 (y.2.2.2.1+1),y.2.2.2.2)
def ZlE (l:List ITMT) (k:Int) (c:CORT) (n:ITMT):List ITMT:=match l.getLast? with
 |some y=>bif Z4M y k c then ZcJ l Z8B else l++[n]
 |none=>l++[n]
def Zi3 (l:List ITMT) (c:CORT) (x:TY) (t:Int):List ITMT:=
 bif Zst t !=1 then ZlE l (Zst t) c (Zst t,cycN c t x,0,1,ZXA c,sodC c)
 else bif t==1 then l++[(1,cycN c t x,0,1,ZXA c,sodC c)]
 else bif t==7 then ZcJ l (λy=>(y.1,cycN c t x,IntKind.wrap .i64 (y.2.2.1+1),y.2.2.2))
 else ZcJ l (λy=>(y.1,cycN c t x,y.2.2.1,IntKind.wrap .i64 (y.2.2.2.1+1),y.2.2.2.2))
def Zut:TC:=(0,(0,0,0,0,0,0,0,(false,false,false,false,false,false,false),0,0),false,false,false,0,false,false,false,false,false,false,false)
def ZQv:LINT:=(false,false,false,false,false,false,false,false,false)
def rdS (c:CORT) (t d:Int):TY×List Int:=bif t !=3 then (c.2.2.2.1,c.2.2.1) else (ZcI c.1 c.2.2.2.1 d,c.2.2.1++[(ZcI c.1 c.2.2.2.1 d).2.2.1])
def finS (c:CORT) (l:LINT) (d:Int):TC×Bool:=
 bif l.2.2.1 then (Zut,false) else
 bif !ZjK c.2.2.2.2.1 (rdS c c.2.2.2.2.1 d).1 then (Zut,false) else
 bif (Zj (Zh c.1 l) c.2.1 (rdS c c.2.2.2.2.1 d).2).2 then (Zut,false) else (finX (Zh c.1 l) c.2.1 (rdS c c.2.2.2.2.1 d).2 l,true)
def ZhJ (c:CORT) (t d:Int):List Int:=bif t==3 then c.2.2.1++[(Zal c t d).2.2.1] else c.2.2.1
def evE (ev:List EVTT) (c:CORT) (l:LINT) (d:Int) (cell:Cell) (moved:Bool):List EVTT:=
 let e1:=bif (finS c l d).2 then ev++[ZDj (ZQQ c.2.1,c.2.1,ZhJ c (Zp c) d,ZQv,false,false,false,false,0,0) (Zh c.1 l) l] else ev
 bif l.2.2.1 then (bif Zhi c then ev++[ZDj (6,c.2.1,c.2.2.1,ZQv,false,false,false,false,0,0) c.1 l] else ev)++[ZDj (4,0,[],ZQv,false,false,false,false,0,0) c.1 l]
 else bif moved then e1++[(5,0,[],ZQv,false,false,false,false,cell)] else e1
def evC (cp:List TC) (ZJ:TC) (c:CORT) (after:CORT) (l:LINT) (d:Int) (moved:Bool):List TC:=
 let c1:=bif (finS c l d).2 then cp++[(finS c l d).1] else cp
 bif l.2.2.1 then (bif Zhi c then cp++[ZCD ZJ cp] else cp)++[after.1]
 else bif moved then c1++[ZCD ZJ cp] else c1
abbrev STT:=SYST×List PINT×List ITMT×List EVTT×List TC
def nowS (s:SYST) (i:INPT):Int:=bif i.2.2.1 then 10 else Zp s.1
def Zc8 (b:BRDT) (ZJ:TC) (st:STT) (i:INPT):STT:=
 let k:=Za1 b st.1 i
 (k.1,st.2.1++[k.2.1],Zi3 st.2.2.1 st.1.1 (Zal st.1.1 (nowS st.1 i) k.2.2.2.1) (nowS st.1 i),
  evE st.2.2.2.1 st.1.1 k.2.2.1 k.2.2.2.1 k.2.2.2.2.1 k.2.2.2.2.2,evC st.2.2.2.2 ZJ st.1.1 k.1.1 k.2.2.1 k.2.2.2.1 k.2.2.2.2.2)
structure RunOk (b:BRDT) (st:STT) (n:Nat):Prop where
 g:smG b.2.1=true
 m:st.1.2.1.length<=100000+2*n
 o:st.1.2.2.2.2.2.length<=n
 k:st.1.1.2.2.1.length<=n
 t:st.2.1.length<=n
 it:st.2.2.1.length<=n
 ev:st.2.2.2.1.length<=2*n
 cp:st.2.2.2.2.length<=2*n
 ne:st.2.2.1=[]->Zp st.1.1=1
theorem ZZI (c:CORT) (t d:Int) (h:c.2.2.1.length<=1000000):ZfQ c t d=true/\ZiT c t d=rdS c t d:=by
 have hms:=mst;have h1:Nat.ble (List.length c.2.2.1) most=true:=Zai (by omega);have h2:∀y:Int,Nat.ble (List.length (c.2.2.1++[y])) most=true:=λy=>Zai (by simp;omega)
 have hv:(ZjF c t d).val=some (rdS c t d):=by unfold ZjF rdS ZcI;simp only[RT.val,h1,h2,List.nil_append,Yh,Ya];cases t !=3<;>rfl
 exact⟨by simp only[ZfQ,hv];rfl,by simp only[ZiT,hv,getO]⟩
theorem Z4d (c:CORT) (l:LINT) (d:Int) (h:c.2.2.1.length<=1000000):ZhM c l d=true/\Zjh c l d=finS c l d:=by
 have h1:=ZZI c c.2.2.2.2.1 d h;have hv:(ZfB c l d).val=some (finS c l d):=by
  unfold ZfB finS;simp only[RT.val,h1.1,h1.2,Ya];cases l.2.2.1
  ·cases ZjK c.2.2.2.2.1 (rdS c c.2.2.2.2.1 d).1
   ·rfl
   ·cases (Zj (Zh c.1 l) c.2.1 (rdS c c.2.2.2.2.1 d).2).2<;>rfl
  ·rfl
 exact⟨by simp only[ZhM,hv];rfl,by simp only[Zjh,hv,getO]⟩
theorem ZQX (c:CORT) (t d:Int) (h:c.2.2.1.length<=1000000):ZuI c t d=true/\ZIQ c t d=ZhJ c t d:=by
 have hms:=mst;have h1:Nat.ble (List.length c.2.2.1) most=true:=Zai (by omega);have h2:∀y:Int,Nat.ble (List.length (c.2.2.1++[y])) most=true:=λy=>Zai (by simp;omega)
 have hv:(ZnS c t d).val=some (ZhJ c t d):=by unfold ZnS ZhJ;simp only[RT.val,h1,h2,List.nil_append,Yh,Ya]
 exact⟨by simp only[ZuI,hv];rfl,by simp only[ZIQ,hv,getO]⟩
theorem ZL4 (ZJ:TC) (l:List TC) (h:l.length<=1000000):
  (!decide (iN l.length>0)||Ze (IntKind.wrap .i64 (iN l.length-1)) l.length)=true/\R.sel Zq (decide (iN l.length>0)) (R.get Zq l (IntKind.wrap .i64 (iN l.length-1))) ZJ=ZCD ZJ l:=by
 rcases Yao l with rfl|⟨l',y,rfl⟩
 ·exact⟨rfl,by rw[R.sel_eq];rfl⟩
 ·simp only[Yap,Yd,List.length_singleton] at h|-;have w:=ZnE l' y (by omega);have d:decide (iN (l'.length+1)>0)=true:=YA (by simp only[iN,Le];omega);simp only[Yd,List.length_singleton] at w;rw[w,d,R.sel_eq];have:=ZmT l' y;simp only[Yd,List.length_singleton] at this;rw[this];exact⟨rfl,by simp only[Ya,ZCD];rw[show R.get Zq (l'++[y]) (l'.length:Int)=y from Znu (r:=Zq) l' y];simp⟩
theorem ZSx (b:BRDT) (l:List INPT) (i:Nat) (r0:RUNT) (s0:SYST) (ZJ:TC) (st:STT) (n:Nat) (h:RunOk b st n) (hi:i<l.length) (hl:l.length<=100000) (hn:n<=200000):
  (Zf7 (l,(l.length:Int),(i:Int),b,r0,st.1,s0,ZJ,st.2.1,st.2.2.1,st.2.2.2.1,st.2.2.2.2,())).val=
   some (Go1.cont (l,(l.length:Int),((i+1:Nat):Int),b,r0,(Zc8 b ZJ st (R.get Zb7 l (i:Int))).1,s0,ZJ,(Zc8 b ZJ st (R.get Zb7 l (i:Int))).2.1,(Zc8 b ZJ st (R.get Zb7 l (i:Int))).2.2.1,
    (Zc8 b ZJ st (R.get Zb7 l (i:Int))).2.2.2.1,(Zc8 b ZJ st (R.get Zb7 l (i:Int))).2.2.2.2,())):=by
 have hms:=mst;obtain⟨s,tr,it,ev,cp⟩:=st;obtain⟨g,m,o,k,t,hit,hev,hcp,ne⟩:=h;simp only at g m o k t hit hev hcp ne;have d:decide ((i:Int)<(l.length:Int))=true:=YA (by omega);have hin:Ze (i:Int) l.length=true:=ZF.2 ⟨by omega,by omega⟩;have w:IntKind.wrap .i64 ((i:Int)+1)=((i+1:Nat):Int):=by rw[wrap_i64 _ (by omega) (by omega)];omega
 obtain⟨q,hq⟩:∃q,R.get Zb7 l (i:Int)=q:=⟨_,rfl⟩;rw[hq];have hc:=ZQU b s q g (by omega) (by omega) (by omega);have hf:=Z4d s.1 (Za1 b s q).2.2.1 (Za1 b s q).2.2.2.1 (by omega);have hb:=ZQX s.1 (Zp s.1) (Za1 b s q).2.2.2.1 (by omega);have hlc:=ZL4 ZJ cp (by omega);have htr:∀x:PINT,Nat.ble (tr++[x]).length most=true:=λx=>Zai (by simp;omega)
 have he1:∀x:EVTT,Nat.ble (ev++[x]).length most=true:=λx=>Zai (by simp;omega)
 have he2:∀(c:Bool) (x y:EVTT),Nat.ble ((bif c then ev++[x] else ev)++[y]).length most=true:=λc x y=>Zai (by cases c<;>simp<;>omega)
 have hc1:∀x:TC,Nat.ble (cp++[x]).length most=true:=λx=>Zai (by simp;omega)
 have hc2:∀(c:Bool) (x y:TC),Nat.ble ((bif c then cp++[x] else cp)++[y]).length most=true:=λc x y=>Zai (by cases c<;>simp<;>omega)
 have hg:Nat.ble (List.length s.1.2.2.1) most=true:=Zai (by omega);obtain⟨T,hT⟩:∃T,(bif q.2.2.1 then (10:Int) else Zp s.1)=T:=⟨_,rfl⟩;have hT':nowS s q=T:=hT;rcases Yao it with rfl|⟨it',y,rfl⟩
 ·have hTT:T=1\/T=10:=by
   rw[<-hT,ne rfl];cases q.2.2.1
   ·exact .inl rfl
   ·exact .inr rfl
  have w0:IntKind.wrap .i64 (iN ([]:List ITMT).length-1)= -1:=by decide
  have w1:decide ((-1:Int)>=0)=false:=by decide
  have w2:Ze (-1) ([]:List ITMT).length=false:=by decide
  have hi1:∀x:ITMT,Nat.ble [x].length most=true:=λx=>Zai (by simp;omega)
  unfold Zf7;rcases hTT with rfl|rfl
  ·have e1:((1:Int)==1)=true:=rfl;have e8:((1:Int)==8)=false:=rfl;have e9:((1:Int)==9)=false:=rfl;have e10:((1:Int)==10)=false:=rfl;have e7:((1:Int)==7)=false:=rfl;have n1:((1:Int) !=1)=false:=rfl;simp only[RT.val,d,hin,w,hq,hT,hc.1,hc.2,hf.1,hf.2,hb.1,hb.2,hlc.1,hlc.2,htr,hi1,he1,he2,hc1,hc2,hg,w0,w1,w2,e1,e8,e9,e10,e7,n1,List.nil_append,ZaV,Zao,Yh,Ys,Ye,Yi,Yu,Yl,Y8,YL,YH,Y3,Ya,Yc];unfold Zc8;rw[hT'];simp only[Zi3,Zst,cycN,e1,e8,e9,e10,e7,n1,Ya,Yc,List.nil_append];rfl
  ·have e1:((10:Int)==1)=false:=rfl;have e8:((10:Int)==8)=false:=rfl;have e9:((10:Int)==9)=false:=rfl;have e10:((10:Int)==10)=true:=rfl;have e7:((10:Int)==7)=false:=rfl;have n1:((4:Int) !=1)=true:=rfl;simp only[RT.val,d,hin,w,hq,hT,hc.1,hc.2,hf.1,hf.2,hb.1,hb.2,hlc.1,hlc.2,htr,hi1,he1,he2,hc1,hc2,hg,w0,w1,w2,e1,e8,e9,e10,e7,n1,List.nil_append,ZaV,Zao,Yh,Ys,Ye,Yi,Yu,Yl,Y8,YL,YH,Y3,Ya,Yc];unfold Zc8;rw[hT'];simp only[Zi3,Zst,cycN,ZlE,List.getLast?_nil,e1,e8,e9,e10,e7,n1,Ya,Yc,List.nil_append];rfl
 ·simp only[Yap] at hit|-;have hlen:it'.length<=1000000:=by simp at hit;omega
  have w0:=ZnE it' y hlen;have w1:decide ((it'.length:Int)>=0)=true:=YA (by omega);have w2:=λz:ITMT=>ZmT it' z
  have w3:=λz:ITMT=>Znu (r:=Zgi) it' z
  have w4:=λz:ITMT=>ZhW it' y z
  have w5:=λz z2:ITMT=>ZhW it' z z2
  have hi1:∀x:ITMT,Nat.ble (it'++[y]++[x]).length most=true:=λx=>Zai (by simp at hit|-;omega)
  have hj:∀f:ITMT->ITMT,ZcJ (it'++[y]) f=it'++[f y]:=ZbY it' y;unfold Zf7;simp only[RT.val,d,hin,w,hq,hT,hc.1,hc.2,hf.1,hf.2,hb.1,hb.2,hlc.1,hlc.2,htr,hi1,he1,he2,hc1,hc2,hg,w0,w1,w2,w3,w4,w5,List.nil_append,ZaV,Zao,Yh,Ys,Ye,Yi,Yu,Yl,Y8,YL,YH,Y3,Ya,Yc];unfold Zc8;rw[hT'];simp only[Zi3,Zst,cycN,ZlE,List.getLast?_concat,hj,Z4M,Z8B];cases T==8<;>cases T==9<;>cases T==10<;>rfl
theorem ZQk (c:CORT) (l:LINT) (d:Int):(ZX c l d).2.2.1.length<=c.2.2.1.length+1:=by
 have he:∀(c:TC) (s:Int) (g:List Int) (h:Bool) (l:LINT),(endX c s g h l).2.2.1.length<=g.length:=by
  intro c s g h l;unfold endX;cases (Zj c s g).2
  ·exact Yt _
  ·exact Yg _
 unfold ZX;dsimp only;cases l.2.2.1
 ·cases ZS c.2.2.2.2.1==1
  ·cases ZS c.2.2.2.2.1==2||ZS c.2.2.2.2.1==7
   ·cases ZS c.2.2.2.2.1==8
    ·cases ZS c.2.2.2.2.1==9
     ·cases ZS c.2.2.2.2.1==3
      ·cases decide (ZS c.2.2.2.2.1<c.2.2.2.1.2.2.2)&& !(ZS c.2.2.2.2.1==6)
       ·exact YO (he _ _ _ _ _) (YaP _)
       ·exact YaP _
      ·cases le3 (ZcI (Zh c.1 l) c.2.2.2.1 d).2.2.2
       ·simp only[Ya,Yc,Yd,List.length_singleton];omega
       ·exact YO (he _ _ _ _ _) (by simp)
     ·cases ZcU (Zh c.1 l) l==0
      ·exact Yt _
      ·exact YaP _
    ·exact YaP _
   ·cases l.1|| !Z6 c.2.2.2.1.1<;>exact YaP _
  ·exact YaP _
 ·exact Yt _
theorem Zuo (b:BRDT) (s:SYST) (i:INPT):(Za1 b s i).1.1=ZX s.1 (Zb5 b (Zv b s i) i) (busS b (Zv b s i) i).2:=by rw[(ZC3 b s i).1];show ZX (busS b (Zv b s i) i).1.1 _ _=_;rw[(ZkA b (Zv b s i) i).1];rfl
theorem ZPI (l:List α) (f:α->α):(ZcJ l f).length=l.length:=by
 rcases Yao l with rfl|⟨l',y,rfl⟩
 ·rfl
 ·rw[Yap,ZbY];simp
theorem ZXu (l:List ITMT) (k:Int) (c:CORT) (n:ITMT):(ZlE l k c n).length<=l.length+1/\ZlE l k c n≠[]:=by
 unfold ZlE;rcases Yao l with rfl|⟨l',y,rfl⟩
 ·exact⟨by simp,by simp⟩
 ·rw[Yap,List.getLast?_concat];dsimp only;cases Z4M y k c
  ·exact⟨by simp,by simp⟩
  ·simp only[Ya];rw[ZbY];exact⟨by simp,by simp⟩
theorem ZXx (l:List ITMT) (c:CORT) (x:TY) (t:Int) (h:l=[]->t=1\/t=10):(Zi3 l c x t).length<=l.length+1/\Zi3 l c x t≠[]:=by
 have hj:=ZXu l (Zst t) c (Zst t,cycN c t x,0,1,ZXA c,sodC c);have ho:∀f:ITMT->ITMT,l≠[]->(ZcJ l f).length<=l.length+1/\ZcJ l f≠[]:=λf hl=>by have:=ZPI l f;refine⟨by omega,λe=>hl ?_⟩;rw[e] at this;exact Y0.1 this.symm
 unfold Zi3;cases hk:Zst t !=1
 ·cases h1:t==1
  ·have hl:l≠[]:=λe=>by
    rcases h e with rfl|rfl
    ·simp at h1
    ·simp[Zst] at hk
   cases t==7
   ·exact ho _ hl
   ·exact ho _ hl
  ·exact⟨by simp,by simp⟩
 ·exact hj
theorem Z6A (s:SYST) (i:INPT) (h:Zp s.1=1):nowS s i=1\/nowS s i=10:=by
 unfold nowS;rw[h];cases i.2.2.1
 ·exact .inl rfl
 ·exact .inr rfl
theorem Z7b (ev:List EVTT) (c:CORT) (l:LINT) (d:Int) (cell:Cell) (moved:Bool):(evE ev c l d cell moved).length<=ev.length+2:=by
 unfold evE;dsimp only;cases l.2.2.1
 ·cases (finS c l d).2<;>cases moved<;>simp
 ·cases Zhi c<;>simp
theorem Z7c (cp:List TC) (ZJ:TC) (c after:CORT) (l:LINT) (d:Int) (moved:Bool):(evC cp ZJ c after l d moved).length<=cp.length+2:=by
 unfold evC;dsimp only;cases l.2.2.1
 ·cases (finS c l d).2<;>cases moved<;>simp
 ·cases Zhi c<;>simp
theorem ZZs (b:BRDT) (ZJ:TC) (st:STT) (i:INPT) (n:Nat) (h:RunOk b st n):RunOk b (Zc8 b ZJ st i) (n+1):=by
 have hc:=ZC3 b st.1 i;have hi:=ZXx st.2.2.1 st.1.1 (Zal st.1.1 (nowS st.1 i) (Za1 b st.1 i).2.2.2.1) (nowS st.1 i) (λe=>Z6A st.1 i (h.ne e));refine⟨h.g,?_,?_,?_,?_,?_,?_,?_,?_⟩
 ·have:=h.m;show (Za1 b st.1 i).1.2.1.length<=_;omega
 ·have:=h.o;show (Za1 b st.1 i).1.2.2.2.2.2.length<=_;omega
 ·have:=h.k;show (Za1 b st.1 i).1.1.2.2.1.length<=_;rw[Zuo];have:=ZQk st.1.1 (Zb5 b (Zv b st.1 i) i) (busS b (Zv b st.1 i) i).2;omega
 ·have:=h.t;show (st.2.1++[_]).length<=_;simp;omega
 ·have:=h.it;exact YO hi.1 (by omega)
 ·have:=h.ev;exact YO (Z7b _ _ _ _ _ _) (by omega)
 ·have:=h.cp;exact YO (Z7c _ _ _ _ _ _ _) (by omega)
 ·intro e;exact absurd e hi.2
def ZbZ (b:BRDT) (ZJ:TC) (st:STT) (l:List INPT):STT:=l.foldl (Zc8 b ZJ) st
theorem ZlQ (b:BRDT) (ZJ:TC):∀(l:List INPT) (st:STT) (n:Nat),RunOk b st n->RunOk b (ZbZ b ZJ st l) (n+l.length)
 |[],st,n,h=>h
 |i::l,st,n,h=>by have:=ZlQ b ZJ l (Zc8 b ZJ st i) (n+1) (ZZs b ZJ st i n h);rw[show n+(i::l).length=n+1+l.length by simp;omega];exact this
theorem Zz6 (l:List α) (d:α) (i:Nat) (h:i<l.length):l.take (i+1)=l.take i++[l.getD i d]:=by rw[YaG,Yq,Yk h];rfl
theorem ZZo (b:BRDT) (l:List INPT) (r0:RUNT) (s0:SYST) (ZJ:TC) (st:STT) (h:RunOk b st 0) (hl:l.length<=70000):
  runF false Zf7 (λ_=>1000000000000) (l,(l.length:Int),0,b,r0,st.1,s0,ZJ,st.2.1,st.2.2.1,st.2.2.2.1,st.2.2.2.2,())=
   some (false,(l,(l.length:Int),(l.length:Int),b,r0,(ZbZ b ZJ st l).1,s0,ZJ,(ZbZ b ZJ st l).2.1,(ZbZ b ZJ st l).2.2.1,(ZbZ b ZJ st l).2.2.2.1,(ZbZ b ZJ st l).2.2.2.2,())):=by
 obtain⟨r,hr,h1⟩:=ZM (fl:=false) (t:=Zf7) (fuel:=λ_=>1000000000000)
  (λa=>∃i:Nat,i<=l.length/\a=(l,(l.length:Int),(i:Int),b,r0,(ZbZ b ZJ st (l.take i)).1,s0,ZJ,(ZbZ b ZJ st (l.take i)).2.1,(ZbZ b ZJ st (l.take i)).2.2.1,(ZbZ b ZJ st (l.take i)).2.2.2.1,(ZbZ b ZJ st (l.take i)).2.2.2.2,()))
  (λa=>Int.toNat (a.2.1-a.2.2.1)) (λr=>r=(false,(l,(l.length:Int),(l.length:Int),b,r0,(ZbZ b ZJ st l).1,s0,ZJ,(ZbZ b ZJ st l).2.1,(ZbZ b ZJ st l).2.2.1,(ZbZ b ZJ st l).2.2.2.1,(ZbZ b ZJ st l).2.2.2.2,())))
  (by
   rintro a ⟨i,hi,rfl⟩;by_cases hlt:i<l.length
   ·left;have hk:=ZlQ b ZJ (l.take i) st 0 h;have hv:=ZSx b l i r0 s0 ZJ (ZbZ b ZJ st (l.take i)) _ hk hlt (by omega) (by simp;omega);refine⟨_,hv,⟨i+1,hlt,?_⟩,by simp only;omega⟩;have e:ZbZ b ZJ st (l.take (i+1))=Zc8 b ZJ (ZbZ b ZJ st (l.take i)) (R.get Zb7 l (i:Int)):=by rw[Zz6 l Zb7.Df i hlt];simp only[ZbZ,List.foldl_append,List.foldl_cons,List.foldl_nil];rfl
    rw[e]
   ·right;left;have e:i=l.length:=by omega
    subst e;have d:decide ((l.length:Int)<(l.length:Int))=false:=Y6 (by omega);rw[List.take_length]
    exact⟨_,by simp only[Zf7,RT.val,d,Yc],rfl⟩)
  (l,(l.length:Int),0,b,r0,st.1,s0,ZJ,st.2.1,st.2.2.1,st.2.2.2.1,st.2.2.2.2,()) ⟨0,Yt _,rfl⟩ (by simp only;omega)
 rw[h1] at hr;exact hr
def Zf0 (b:BRDT):STT:=((wNew b).1,[],[],[],[])
def Zc5 (b:BRDT):TC:=(wNew b).1.1.1
def ZnC:SYST:=((Zut,0,[],(0,0,0,0),0,false),[],(0,false,false,false,false,0,0,false,false,false,false,false,0,0,0,0,0,0,0,false),(0,0,0),0,[])
theorem ZnG (b:BRDT) (hg:smG b.2.1=true) (hm:smC b.2.2.2.2.2.2=true):ZkF b=true:=by
 unfold ZkF ZgR;simp only[RT.val,hg,hm,Yh,Ya];cases b.1 !=1&&b.1 !=2
 ·cases Zb9 b.2.1 !=0
  ·cases decide (b.2.2.1<0)||(decide (b.2.2.1>100)|| !vldB b.2.2.2.2.2.2)<;>rfl
  ·rfl
 ·rfl
def newS (b:BRDT):SYST:=((((newX b.1).1.1,(0,0,0,0,0,0,0,(false,false,false,false,false,false,false),0,0),false,false,false,(newX b.1).1.2.2.2.2.2.1,false,false,false,false,false,false,false),0,[],(1,0,0,4),1,false),
 normX b.2.2.2.2.2.2,(0,false,false,false,false,0,0,false,false,false,false,false,0,0,0,0,7,0,0,false),(0,0,0),0,[])
theorem ZDn (b:BRDT) (hg:smG b.2.1=true) (hm:b.2.2.2.2.2.2.length<=100000):ZYN b=true/\(wNew b).2=ZcF b/\((wNew b).2=0->RunOk b (Zf0 b) 0/\(wNew b).1.2.1=normX b.2.2.2.2.2.2):=by
 have hc:=smCb (l:=b.2.2.2.2.2.2) (by omega);have hv:(ZDo b).val=some (bif ZcF b !=0 then (ZnC,ZcF b) else ((newS b),0)):=by unfold ZDo;simp only[RT.val,ZnG b hg hc,hc,Ya];cases ZcF b !=0<;>rfl
 refine⟨by simp only[ZYN,hv];rfl,?_,?_⟩
 ·simp only[wNew,hv,getO];cases hx:ZcF b !=0
  ·simp at hx;exact hx.symm
  ·rfl
 ·intro h0;have hx:(ZcF b !=0)=false:=by
   cases hx:ZcF b !=0
   ·rfl
   ·simp only[wNew,hv,getO,hx,Ya] at h0;rw[h0] at hx;simp at hx
  have e:wNew b=((newS b),0):=by simp only[wNew,hv,getO,hx,Yc]
  have hn:=ZeN b.2.2.2.2.2.2;unfold Zf0;rw[e];exact⟨⟨hg,by show (normX b.2.2.2.2.2.2).length<=_;omega,Yg _,Yg _,Yg _,Yg _,Yg _,Yg _,λ_=>rfl⟩,rfl⟩
def endS (ZJ:TC) (st:STT):RUNT:=
 (st.2.1,st.2.2.1,bif Zhi st.1.1 then st.2.2.2.1++[(7,st.1.1.2.1,st.1.1.2.2.1,ZQv,false,false,false,false,0,0)] else st.2.2.2.1,bif Zhi st.1.1 then st.2.2.2.2++[ZCD ZJ st.2.2.2.2] else st.2.2.2.2,st.1)
def Zc7 (b:BRDT) (l:List INPT):RUNT×Int:=bif (wNew b).2 !=0 then (([],[],[],[],ZnC),(wNew b).2) else (endS (Zc5 b) (ZbZ b (Zc5 b) (Zf0 b) l),0)
theorem Z4a (b:BRDT) (l:List Int) (hg:smG b.2.1=true) (hm:b.2.2.2.2.2.2.length<=100000) (hl:l.length<=4000):ZzB b l=true/\wRun b l=Zc7 b (Za9 l):=by
 have hms:=mst;have hd:=ZMO l hl;have hn:=ZDn b hg hm;have hv:(ZQG b l).val=some (Zc7 b (Za9 l)):=by
  unfold ZQG Zc7;cases hx:(wNew b).2 !=0
  ·have h0:(wNew b).2=0:=by simpa using hx
   have hi:=(hn.2.2 h0).1;have hf:=ZlQ b (Zc5 b) (Za9 l) (Zf0 b) 0 hi;have hr:=ZZo b (Za9 l) ([],[],[],[],ZnC) ZnC (Zc5 b) (Zf0 b) hi (by omega);have hr':runF false Zf7 (λ_=>1000000000000) (Za9 l,iN (Za9 l).length,0,b,([],[],[],[],((0,(0,0,0,0,0,0,0,(false,false,false,false,false,false,false),0,0),false,false,false,0,false,false,false,false,false,false,false),0,[],(0,0,0,0),0,false),[],(0,false,false,false,false,0,0,false,false,false,false,false,0,0,0,0,0,0,0,false),(0,0,0),0,[]),(wNew b).1,(((0,(0,0,0,0,0,0,0,(false,false,false,false,false,false,false),0,0),false,false,false,0,false,false,false,false,false,false,false),0,[],(0,0,0,0),0,false),[],(0,false,false,false,false,0,0,false,false,false,false,false,0,0,0,0,0,0,0,false),(0,0,0),0,[]),(wNew b).1.1.1,[],[],[],[],())=some (false,(Za9 l,((Za9 l).length:Int),((Za9 l).length:Int),b,([],[],[],[],ZnC),(ZbZ b (Zc5 b) (Zf0 b) (Za9 l)).1,ZnC,Zc5 b,(ZbZ b (Zc5 b) (Zf0 b) (Za9 l)).2.1,(ZbZ b (Zc5 b) (Zf0 b) (Za9 l)).2.2.1,(ZbZ b (Zc5 b) (Zf0 b) (Za9 l)).2.2.2.1,(ZbZ b (Zc5 b) (Zf0 b) (Za9 l)).2.2.2.2,())):=hr;simp only[RT.val,hn.1,hd.1,hr',hx,okB,getO,Ya,Yc];obtain⟨st,hst⟩:∃st,ZbZ b (Zc5 b) (Zf0 b) (Za9 l)=st:=⟨_,rfl⟩;rw[hst] at hf|-;have hk:=hf.k;have he:=hf.ev;have hc:=hf.cp;have hdl:=hd.2;have hlc:=ZL4 (Zc5 b) st.2.2.2.2 (by omega);have b1:Nat.ble (List.length st.1.1.2.2.1) most=true:=Zai (by omega);have b2:∀x:EVTT,Nat.ble (List.length (st.2.2.2.1++[x])) most=true:=λx=>Zai (by simp;omega)
   have b3:∀x:TC,Nat.ble (List.length (st.2.2.2.2++[x])) most=true:=λx=>Zai (by simp;omega)
   simp only[hlc.1,hlc.2,b1,b2,b3,List.nil_append,Yh,Ye,Yi,Ya];unfold endS;cases Zhi st.1.1<;>rfl
  ·simp only[RT.val,hn.1,hx,Ya];rfl
 exact⟨by simp only[ZzB,hv];rfl,by simp only[wRun,hv,getO]⟩
end
end Go.Proofs.YtpnjbfjomebppaaGreat
open Go.Proofs.Tryz (prog)
open Go Go.S3 Go.Proofs
namespace Go.Proofs.YtpnjbfjomebppaaGreat
noncomputable section
abbrev ZaQ:R:=R.int u8
abbrev ZaR:Nat:=5
def ZDv:LS:={n:=64,Sl:=[(3,.tip 0),(7,.code (So (R.sl Zb7))),(8,.code (So Kc)),(9,.code (So Kc))],Bx:=[],Sg:=[⟨Ka,5,false⟩]}
def ZiE (a:List INPT×Int×Int×List Int×PUnit):RT (Option (Go1 (List INPT×Int×Int×List Int×PUnit))):=
 let x1:INPT:=R.get Zb7 a.1 a.2.2.1
 let x2:= !x1.1
 let x3:=Zga x2 0
 let x4:= !x3
 let x5:=x1.2
 let x6:=x5.1
 let x7:=Zga x6 1
 let x8:= !x7
 let x9:=x5.2
 let x10:=x9.1
 let x11:=Zga x10 2
 let x12:= !x11
 let x13:=x9.2
 let x14:=x13.1
 let x15:=Zga x14 3
 let x16:= !x15
 let p1:=x16::x12::x8::x4::[]
 let x17:=x13.2
 let x18:=x17.1
 let x19:=Zga x18 4
 let x20:= !x19
 let p3:=x20::p1
 let x21:=x17.2
 let x22:=x21.1
 let x23:=Zga x22 5
 let x24:= !x23
 let p6:=x24::p3
 let x25:=x21.2
 let x26:=x25.1
 let x27:=Zga x26 6
 let p7:=(!x27)::p6
 let x28:=x25.2
 let x29:=x28.1
 let x30:=orR p7 (Zga x29 7)
 let x31:= !x30
 let x32:=orR p6 x27
 let x33:= !x32
 let p2:=x33::x31::(decide (a.2.2.1>=65536))::(!Ze a.2.2.1 (Le a.1))::[]
 let x34:=orR p3 x23
 let x35:= !x34
 let p4:=x35::p2
 let x36:=orR p1 x19
 let x37:= !x36
 let p5:=x37::p4
 let x38:=x4||(x8||(x12||x15))
 let x39:= !x38
 let p8:=x39::p5
 let x40:=x4||(x8||x11)
 let x41:= !x40
 let p9:=x41::p8
 let x42:=x4||x7
 let x43:= !x42
 let p10:=x43::p9
 let p11:=x4::p10
 let x44:=orI u8 (orI u8 (orI u8 (orI u8 (orI u8 (orI u8 (orI u8 (wBit x2 0) (wBit x6 1)) (wBit x10 2)) (wBit x14 3)) (wBit x18 4)) (wBit x22 5)) (wBit x26 6)) (wBit x29 7)
 let x45:=x28.2
 let x46:=x45.1
 let x47:=x45.2
 let x48:List Int:=a.2.2.2.1++[x44,x46,x47,ZfD x44 x46 x47]
 .br (decide (a.2.2.1<a.2.1)) (.br (orR p11 (Nat.ble (Le x48) most)) (.br (orR p10 x3) (.br (orR p9 x42) (.br (orR p8 x40) (.br (orR p5 x38) (.br (orR p4 x36) (.br (orR p2 x34) (.br (!Ze a.2.2.1 (Le a.1)||(decide (a.2.2.1>=65536)||(x31||x32))) (.br (!Ze a.2.2.1 (Le a.1)||(decide (a.2.2.1>=65536)||x30)) (.br (Ze a.2.2.1 (Le a.1)) (.br (decide (a.2.2.1>=65536)) (Ls (Go1.brk (a.1,a.2.1,a.2.2.1,a.2.2.2.1,PUnit.unit))) (Ls (Go1.cont (a.1,a.2.1,i64.wrap (a.2.2.1+1),x48,PUnit.unit)))) Ln) Ln) Ln) Ln) Ln) Ln) Ln) Ln) Ln) Ln) (Ls (Go1.brk (a.1,a.2.1,a.2.2.1,a.2.2.2.1,PUnit.unit)))
def ZnO:Ora:=ZaX false ZDv ZiE (λa=>1000000000000)
theorem ZuD:ZaF (envX prog [(116,ZQ1),(117,ZiH)] [] 127 8) (.block 0 (.loop (Z4 Tryz.f56.body 0))) ZnO:=
 loopP ⟨ZuJ,ZfC,Tv⟩
def ZgT (l:List INPT):RT (Option (List Int)):=
 let x1:=runF false ZiE (λa=>1000000000000) (l,iN (Le l),0,[],())
 .br (okB x1) (Ls (getO (false,l,iN (Le l),0,[],()) x1).2.2.2.2.1) Ln
def ZbL (l:List INPT):List Int:=getO [] (ZgT l).val
def ZgU (l:List INPT):Bool:=okB (ZgT l).val
def ZzH:En:=frzE (newE ZaQ ZaR ZzG (λa=>some (ZgU a)) (λa=>ZbL a))
theorem ZzI:Za prog 56 (newE ZaQ ZaR ZzG (λa=>some (ZgU a)) (λa=>ZbL a)):=
 Znn (P:=prog) (n:=127) (k:=8) (l:=[(116,ZQ1),(117,ZiH)]) (ol:=[(0,ZnO)]) ⟨ZuJ,ZfC,Tv⟩ Tryz.func56 rfl (by kernel_rfl) Tryz.call56 ⟨ZuD,Tv⟩ (r:=ZaQ) (T:=ZaR) (ts:=ZzG) (t:=λa=>ZgT a) (λa=>by kernel_rfl)
theorem ZDu:Za prog 56 ZzH:=ZCO ZzI
def Zh9 (s:List Int×Int) (n:Int):RT (Option (List Int×List Int×Int)):=
 let x1:=decide (iN (Le (Stg.l (newG ZaQ ZaR (ZbL (Zaj s n).1))))>0)
 let x2:=x1&&(Zd (Zaj s n).2 4).1==0
 let x3:= !x2
 let x4:List Int:=bif x1 then (Zd (Zaj s n).2 4).2.1 else (Zaj s n).2.1
 let x5:Int:=bif x1 then (Zd (Zaj s n).2 4).2.2 else (Zaj s n).2.2
 let x6:List Int×Int:=(x4,x5)
 let x7:=Zk x6 (iN (Le (Stg.l (newG ZaQ ZaR (ZbL (Zaj s n).1)))))
 let x8:= !x7
 let x9:=Zd x6 (iN (Le (Stg.l (newG ZaQ ZaR (ZbL (Zaj s n).1)))))
 let x10:=x9.1
 let x11:=Ze x10 (Le (Stg.l (newG ZaQ ZaR (ZbL (Zaj s n).1))))
 let x12:= !x11
 let x13:=x9.2
 let x14:=Zk x13 8
 let x15:= !x14
 let p1:=x15::x12::x8::x3::[]
 let x16:=Zd x13 8
 let x17:=x16.1
 let x18:=decide (0<=x17)
 let p2:=(!x18)::p1
 let x19:=x16.2
 .br (!Zkb s n||ZgU (Zaj s n).1) (.br (Zkb s n) (.br (!x1||Zk (Zaj s n).2 4) (.br (orR p2 x11) (.br (orR p1 x18) (.br (x3||(x8||(x12||x14))) (.br (x3||(x8||x11)) (.br (x3||x7) (Ls ((bif x2 then setI (Stg.l (newG ZaQ ZaR (ZbL (Zaj s n).1))) x10 (xorI u8 (R.get (Stg.r (newG ZaQ ZaR (ZbL (Zaj s n).1))) (Stg.l (newG ZaQ ZaR (ZbL (Zaj s n).1))) x10) (shlI u8 1 x17)) else Stg.l (newG ZaQ ZaR (ZbL (Zaj s n).1)),bif x2 then x19.1 else x4,bif x2 then x19.2 else x5))) Ln) Ln) Ln) Ln) Ln) Ln) Ln) Ln
def Zht (s:List Int×Int) (n:Int):List Int×List Int×Int:=getO (ZnN.Df,ZHM.Df) (Zh9 s n).val
def Zno (s:List Int×Int) (n:Int):Bool:=okB (Zh9 s n).val
def ZLI:En:=boxE ZHM ZBC ZnN (λa=>some (Zno a.1 a.2)) (λa=>Zht a.1 a.2)
theorem ZPN:Za prog 67 ZLI:=
 ZcQ (P:=prog) (n:=63) (k:=8) (l:=[(56,ZzH),(68,Zdc),(125,ZLJ)]) (ol:=[]) ⟨ZDu,Zbj,ZPQ,Tv⟩ Tryz.func67 rfl (by kernel_rfl) Tryz.call67 trivial (rb:=ZHM) (ts:=ZBC) (rs:=ZnN) (t:=λa=>Zh9 a.1 a.2) (λa=>by kernel_rfl)
theorem ZX3:ZiE=Zdw:=by funext a;rfl
theorem ZYR (l:List INPT) (hl:l.length<=1000):ZgU l=true/\ZbL l=ZiF l/\(ZbL l).length=4*l.length:=by
 have h:=ZMM l hl;have e:ZgT l=Zf8 l:=by unfold ZgT Zf8;rw[ZX3]
 have e2:ZbL l=ZiF l:=by unfold ZbL ZiF;rw[e];rfl
 refine⟨by unfold ZgU;rw[e];exact h.1,e2,by rw[e2];exact h.2⟩
theorem ZPO {s:List Int×Int} {k:Int} (h:NB s k) (hk:k<=50000) (n:Nat) (hn:n<=250):
  Zno s (n:Int)=true/\NB (Zht s (n:Int)).2 (k+10+30*n)/\(Zht s (n:Int)).1.length<=4*n/\∃m:Nat,(Zht s (n:Int)).1.length=4*m:=by
 have hms:=mst;obtain⟨c1,b1,l1⟩:=ZPR h (by omega) n hn;obtain⟨c2,e2,l2⟩:=ZYR (Zaj s (n:Int)).1 (by omega);have hg:∀l:List Int,Stg.l (newG ZaQ ZaR l)=l:=λ_=>rfl
 have hr:∀l:List Int,Stg.r (newG ZaQ ZaR l)=R.int .u8:=λ_=>rfl
 obtain⟨L,hL⟩:∃L,L=ZbL (Zaj s (n:Int)).1:=⟨_,rfl⟩;rw[<-hL] at l2;obtain⟨c3,b3,_⟩:=ZE b1 (by omega) 4 (by decide) (by decide);have b4:NB (bif decide (iN L.length>0) then (Zd (Zaj s (n:Int)).2 4).2.1 else (Zaj s (n:Int)).2.1,bif decide (iN L.length>0) then (Zd (Zaj s (n:Int)).2 4).2.2 else (Zaj s (n:Int)).2.2) (k+3+30*n):=by
  cases decide (iN L.length>0)
  ·exact b1.up (by omega)
  ·exact b3.up (by omega)
 obtain⟨s4,hs4⟩:∃s4:List Int×Int,s4=(bif decide (iN L.length>0) then (Zd (Zaj s (n:Int)).2 4).2.1 else (Zaj s (n:Int)).2.1,bif decide (iN L.length>0) then (Zd (Zaj s (n:Int)).2 4).2.2 else (Zaj s (n:Int)).2.2):=⟨_,rfl⟩;rw[<-hs4] at b4;have hv:∃l s',(Zh9 s (n:Int)).val=some (l,s')/\NB s' (k+10+30*n)/\l.length=L.length:=by
  by_cases hz:0<L.length
  ·have d:decide (iN L.length>0)=true:=YA (by simp only[iN,Le];omega);obtain⟨c5,b5,d0,d1⟩:=ZE b4 (by omega) (iN L.length) (by simp only[iN,Le];omega) (by simp only[iN,Le];omega);obtain⟨c6,b6,f0,f1⟩:=ZE b5 (by omega) 8 (by decide) (by decide);have r5:Ze (Zd s4 (iN L.length)).1 L.length=true:=ZF.2 ⟨d0,by simpa [iN,Le] using d1⟩;have e6:decide (0<=(Zd (Zd s4 (iN L.length)).2 8).1)=true:=YA f0;rw[d] at hs4;simp only[Ya] at hs4;unfold Zh9;simp only[RT.val,hg,hr,<-hL,c1,c2,d,c3,<-hs4,c5,r5,c6,e6,ZaV,Zao,YH,Ye,Yh,Yi,Ya];cases (Zd (Zaj s (n:Int)).2 4).1==0
   ·exact⟨_,_,rfl,b3.up (by omega),rfl⟩
   ·exact⟨_,_,rfl,b6.up (by omega),by simp only[Ya,setI,YaD]⟩
  ·have d:decide (iN L.length>0)=false:=Y6 (by simp only[iN,Le];omega);rw[d] at hs4;simp only[Yc] at hs4;unfold Zh9;simp only[RT.val,hg,hr,<-hL,c1,c2,d,ZaV,Zao,YL,Ye,Yl,Ys,Yh,Yi,Ya,Yc];exact⟨_,_,rfl,b1.up (by omega),rfl⟩
 obtain⟨l,s',hv,h1,h2⟩:=hv;simp only[Zno,Zht,hv,okB,getO];exact⟨trivial,h1,by omega,(Zaj s (n:Int)).1.length,by omega⟩
abbrev ZnK:List Sh:=[So (R.sl Zq),So (R.sl Zq)]
def ZMH:LS:={n:=26,Sl:=[(0,.code (So (R.sl Zq))),(1,.code (So (R.sl Zq))),(4,.code (So R.bool)),(12,.code (So Kc)),(13,.code (So Kc))],Bx:=[],Sg:=[]}
def ZfA (a:List TC×List TC×Bool×Int×Int×PUnit):RT (Option (Go1 (List TC×List TC×Bool×Int×Int×PUnit))):=
 let x1:= !Ze a.2.2.2.2.1 (Le a.1)||Ze a.2.2.2.2.1 (Le a.2.1)
 let x2:TC:=R.get Zq a.1 a.2.2.2.2.1
 let x3:TC:=R.get Zq a.2.1 a.2.2.2.2.1
 let x56:QT34:=(a.2.2.2.1,a.2.2.2.2.1,PUnit.unit)
 .br (decide (a.2.2.2.2.1<a.2.2.2.1)) (.br (!x1||Ze a.2.2.2.2.1 (Le a.1)) (.br (x1) (.br (!(R.eqf Zq x2 x3 true)) (Ls (Go1.ret (a.1,a.2.1,false,x56))) (Ls (Go1.cont (a.1,a.2.1,a.2.2.1,a.2.2.2.1,i64.wrap (a.2.2.2.2.1+1),PUnit.unit)))) Ln) Ln) (Ls (Go1.brk (a.1,a.2.1,a.2.2.1,x56)))
def ZsA:Ora:=ZaX true ZMH ZfA (λa=>1000000000000)
theorem Zzz:ZaF (envX Tryz.prog [] [] 63 8) (.block 0 (.loop (Z4 Tryz.f39.body 0))) ZsA:=
 loopP trivial
def Zje (a:List TC) (b:List TC):RT (Option (Bool)):=
 let x1:=runF true ZfA (λa_1=>1000000000000) (a,b,false,iN (Le a),0,())
 let x2:=getO (false,a,b,false,iN (Le a),0,()) x1
 .br (iN (Le a) !=iN (Le b)) (Ls (false)) (.br (okB x1) (.br x2.1 (Ls x2.2.2.2.1) (Ls (true))) Ln)
def ZDm (a:List TC) (b:List TC):Bool:=getO Zqd.Df (Zje a b).val
def ZuA (a:List TC) (b:List TC):Bool:=okB (Zje a b).val
def ZYM:En:=Zg ZnK Zqd (λa=>some (ZuA a.1 a.2)) (λa=>ZDm a.1 a.2)
theorem ZMG:Za Tryz.prog 39 ZYM:=
 pureP 63 [] [(0,ZsA)] _ _ trivial Tryz.func39 Tryz.call39 ⟨Zzz,Tv⟩
def Z8X (k:Int):Bool:=k==1||(k==2||k==3)
def Z8e (c:TC) (e:EVTT):TC:=(c.1,c.2.1,c.2.2.1,c.2.2.2.1,c.2.2.2.2.1,c.2.2.2.2.2.1,e.2.2.2.2.2.1,e.2.2.2.2.1,e.2.2.2.2.2.2.2.1,e.2.2.2.2.2.2.1,c.2.2.2.2.2.2.2.2.2.2)
def ZMC (c:TC) (e:EVTT):TC:=bif Z8X e.1 then finX (Z8e (Zbo c e.2.1) e) e.2.1 e.2.2.1 e.2.2.2.1 else bif e.1==4 then Z3 c else c
def Z8d (c:TC) (x:TY) (b:Int):TY:=(x.1,x.2.1,bif Zbi x.1 then b else x.2.2.1,bif x.1==1||x.1==8 then ZgG c.1 b else x.2.2.2)
def cyX (c:TC) (s:Int) (g:List Int):List Int->List TY
 |[]=>[]
 |b::r=>bif (Zj c s g).2 then Z8d c (Zj c s g).1 b::cyX c s (g++[b]) r else []
def cycE (k:Int):Bool:=Z8X k||(k==6||k==7)
def Z7k (c:TC) (e:EVTT):List TY:=bif cycE e.1 then cyX (Zbo c e.2.1) e.2.1 [] e.2.2.1 else []
def Z7N (c:TC):List EVTT->List TC
 |[]=>[]
 |e::l=>ZMC c e::Z7N (ZMC c e) l
def Z6O (c:TC) (l:List EVTT):TC:=l.foldl ZMC c
variable {r:R}
theorem ZR4 (g:List r.den) (i:Nat) (h:i<g.length):g.take (i+1)=g.take i++[R.get r g (i:Int)]:=by rw[YaG,Yk h];simp[R.get,Yk h]
theorem ZZn (hp:r.plain=true) (T:List r.den×List r.den×Bool×Int×Int×PUnit->RT (Option (Go1 (List r.den×List r.den×Bool×Int×Int×PUnit))))
  (hT:∀(a b:List r.den) (f:Bool) (n i:Int),Ze i a.length=true->Ze i b.length=true->(T (a,b,f,n,i,())).val=bif decide (i<n) then (bif r.eqf (R.get r a i) (R.get r b i) true then some (.cont (a,b,f,n,IntKind.wrap .i64 (i+1),())) else some (.ret (a,b,false,n,i,()))) else some (.brk (a,b,f,n,i,())))
  (hT2:∀(a b:List r.den) (f:Bool) (n:Int),(T (a,b,f,n,n,())).val=some (.brk (a,b,f,n,n,())))
  (a b:List r.den) (h:a.length=b.length) (hl:a.length<=1000000000):
  ∃q,runF true T (λ_=>1000000000000) (a,b,false,(a.length:Int),0,())=some q/\((q.1=false/\a=b)\/(q.1=true/\a≠b/\q.2.2.2.1=false)):=by
 refine ZM (fl:=true) (t:=T) (fuel:=λ_=>1000000000000)
  (λx=>∃i:Nat,i<=a.length/\a.take i=b.take i/\x=(a,b,false,(a.length:Int),(i:Int),()))
  (λx=>Int.toNat (x.2.2.2.1-x.2.2.2.2.1)) _ ?_ _ ⟨0,Yt _,rfl,rfl⟩ (by simp only;omega)
 rintro x ⟨i,hi,ht,rfl⟩;by_cases hlt:i<a.length
 ·have d:decide ((i:Int)<(a.length:Int))=true:=YA (by omega);have i1:Ze (i:Int) a.length=true:=ZF.2 ⟨by omega,by omega⟩;have i2:Ze (i:Int) b.length=true:=ZF.2 ⟨by omega,by omega⟩;have w:IntKind.wrap .i64 ((i:Int)+1)=((i+1:Nat):Int):=by rw[wrap_i64 _ (by omega) (by omega)];omega
  cases he:r.eqf (R.get r a (i:Int)) (R.get r b (i:Int)) true
  ·right;right;refine⟨(a,b,false,(a.length:Int),(i:Int),()),rfl,by rw[hT _ _ _ _ _ i1 i2];simp only[d,he,Ya,Yc],.inr ⟨rfl,λe=> ?_,rfl⟩⟩;rw[e,R.eqf_refl] at he;exact absurd he (by simp)
  ·left;have e:=((R.eqf_iff r hp _ _ _).1 he).1;refine⟨(a,b,false,(a.length:Int),((i+1:Nat):Int),()),by rw[hT _ _ _ _ _ i1 i2];simp only[d,he,w,Ya],⟨i+1,by omega,?_,rfl⟩,by simp only;omega⟩;rw[ZR4 a i hlt,ZR4 b i (by omega),ht,e]
 ·right;left;have e1:i=a.length:=by omega
  subst e1;refine⟨_,hT2 _ _ _ _,.inl ⟨rfl,?_⟩⟩;rw[List.take_length] at ht;rw[ht,h,List.take_length]
def ZiM (r:R):List r.den->List r.den->Bool
 |[],[]=>true
 |x::a,y::b=>r.eqf x y (ZiM r a b)
 |_,_=>false
theorem Zog (r:R) (hp:r.plain=true):∀a b:List r.den,ZiM r a b=true↔a=b
 |[],[]=>by simp[ZiM]
 |[],y::b=>by simp[ZiM]
 |x::a,[]=>by simp[ZiM]
 |x::a,y::b=>by simp only[ZiM];rw[R.eqf_iff r hp,Zog r hp a b];simp
theorem Ztd (r:R):∀a:List r.den,ZiM r a a=true
 |[]=>rfl
 |x::a=>by simp only[ZiM,R.eqf_refl,Ztd r a]
theorem ZJr (r:R) (hp:r.plain=true) {a b:List r.den} (h:a≠b):ZiM r a b=false:=by
 cases hq:ZiM r a b
 ·rfl
 ·exact absurd ((Zog r hp a b).1 hq) h
variable {α:Type}
theorem Z8L {a b:List α} (h:(iN a.length !=iN b.length)=true):a≠b:=λe=>by subst e;simp at h
theorem ZSn (a b:List TC) (h:a.length<=1000000000):ZuA a b=true/\ZDm a b=ZiM Zq a b:=by
 have hv:(Zje a b).val=some (ZiM Zq a b):=by
  unfold Zje;cases hx:iN a.length !=iN b.length
  ·have hl:a.length=b.length:=by simp only[iN,Le,bne_eq_false_iff_eq] at hx;omega
   obtain⟨q,hr,hq⟩:=ZZn (r:=Zq) rfl ZfA (λa b f n i h1 h2=>by
    simp only[ZfA,RT.val,h1,h2,Ye,Y8,Yi,Ya];cases decide (i<n)
    ·rfl
    ·simp only[Ya]
     cases Zq.eqf (R.get Zq a i) (R.get Zq b i) true<;>rfl) (λa b f n=>by
    have d:decide (n<n)=false:=Y6 (by omega)
    simp only[ZfA,RT.val,d,Yc]) a b hl h
   simp only[RT.val,iN,Le] at hr|-;rcases hq with ⟨e1,e2⟩|⟨e1,e2,e3⟩
   ·rw[(Zog Zq rfl a b).2 e2];simp only[hr,e1,okB,getO,Ya,Yc]
   ·simp only[hr,e1,e3,okB,getO,Ya,Yc];exact congrArg some (ZJr Zq rfl e2).symm
  ·simp only[RT.val,hx,Ya];exact congrArg some (ZJr Zq rfl (Z8L hx)).symm
 exact⟨by simp only[ZuA,hv];rfl,by simp only[ZDm,hv,getO]⟩
def ZM5 {α:Type} (l:List α):Bool:=Nat.ble l.length 1000000
theorem ZZt {l:List α} (h:ZM5 l=true):l.length<=1000000:=by simpa [ZM5] using h
def ZzA:En:=Zg ZnK Zqd (λa=>some (ZM5 a.1)) (λa=>ZiM Zq a.1 a.2)
theorem ZDl:Za Tryz.prog 39 ZzA:=ZkW ZMG λa h=>ZSn a.1 a.2 (YO (ZZt h) (by omega))
def ZFL (l:Int) (k:Int):RT (Int):=
 .Lf (andI i64 (i64.wrap (i64.wrap (andI i64 l 7-andI i64 k 7)+7)) 7)
def ZBl (l:Int) (k:Int):Int:=(ZFL l k).val
def ZUp:En:=Zg ZRc Z3u (λ_=>none) (λa=>ZBl a.1 a.2)
theorem ZUo:Za prog 381 ZUp:=
 pureQ 31 [] [] _ _ trivial Tryz.func381 Tryz.call381 trivial
def ZUs:LS:={n:=22,Sl:=[(0,.code (So Ka)),(1,.code (So Kc)),(4,.code (So Kc)),(5,.code (So Kc))],Bx:=[],Sg:=[]}
def ZdX (a:QT23):RT (Option (Go1 (QT23))):=
 let x1:=andI i64 (i64.wrap (andI i64 a.2.1 7+a.2.2.2.1)) 7
 .br (decide (a.2.2.2.1<=8)) (.br (decide (0<=x1)) (.br (andI u8 (shrI u8 a.1 x1) 1==1) (Ls (Go1.ret (a.1,a.2.1,x1,a.2.2.2.1,PUnit.unit))) (Ls (Go1.cont (a.1,a.2.1,a.2.2.1,i64.wrap (a.2.2.2.1+1),PUnit.unit)))) Ln) (Ls (Go1.brk (a.1,a.2.1,a.2.2.1,a.2.2.2.1,PUnit.unit)))
def ZBn:Ora:=ZaX true ZUs ZdX (λa=>9)
theorem ZFM:ZaF (envX prog [] [] 127 8) (.block 0 (.loop (Z4 Tryz.f346.body 0))) ZBn:=
 loopP trivial
def ZiW (s:Int) (k:Int):RT (Option (Int)):=
 let x1:=runF true ZdX (λa=>9) (s,k,0,1,())
 let x2:=getO (false,s,k,0,1,()) x1
 .br (okB x1) (.br x2.1 (Ls x2.2.2.2.1) (Ls (-1))) Ln
def ZjV (s:Int) (k:Int):Int:=getO Z3u.Df (ZiW s k).val
def ZiX (s:Int) (k:Int):Bool:=okB (ZiW s k).val
def ZFN:En:=Zg Z7t Z3u (λa=>some (ZiX a.1 a.2)) (λa=>ZjV a.1 a.2)
theorem ZBm:Za prog 346 ZFN:=
 pureP 127 [] [(0,ZBn)] _ _ trivial Tryz.func346 Tryz.call346 ⟨ZFM,Tv⟩
def ZpF (r:Int) (m:Int) (s:Int) (k:Int) (p:Bool):RT (Option (Int)):=
 .br (!ZiX (Z8 u8 r m) k||ZiX (bif p then Z8 u8 s m else s) k) (.br (ZiX (Z8 u8 r m) k) (.br (decide (ZjV (Z8 u8 r m) k<0)||decide (ZjV (bif p then Z8 u8 s m else s) k>=0)&&decide (ZBl (ZjV (Z8 u8 r m) k) k>=ZBl (ZjV (bif p then Z8 u8 s m else s) k) k)) (Ls (-1)) (Ls (ZjV (Z8 u8 r m) k))) Ln) Ln
def ZKJ (r:Int) (m:Int) (s:Int) (k:Int) (p:Bool):Int:=getO Z3u.Df (ZpF r m s k p).val
def ZwU (r:Int) (m:Int) (s:Int) (k:Int) (p:Bool):Bool:=okB (ZpF r m s k p).val
def ZUr:En:=Zg ZRg Z3u (λa=>some (ZwU a.1 a.2.1 a.2.2.1 a.2.2.2.1 a.2.2.2.2)) (λa=>ZKJ a.1 a.2.1 a.2.2.1 a.2.2.2.1 a.2.2.2.2)
theorem ZUq:Za prog 344 ZUr:=
 pureP 8191 [(346,ZFN),(381,ZUp)] [] _ _ ⟨ZBm,ZUo,Tv⟩ Tryz.func344 Tryz.call344 trivial
def Z3i:RT PICT:=
 .Lf ((0,false,false,false,false,0,0,false,false,false,false,false,0,0,0,0,7,0,0,false))
def Z5C:PICT:=(Z3i).val
def ZKQ:En:=Zg ZBh Z2j (λ_=>none) (λa=>Z5C)
theorem ZKP:Za prog 99 ZKQ:=
 pureQ 1 [] [] _ _ trivial Tryz.func99 Tryz.call99 trivial
def ZUw (p:PICT):RT (Int):=
 .br p.2.1 (.Lf p.2.2.2.2.2.2.2.2.2.2.2.2.1) (.Lf p.2.2.2.2.2.2.2.2.2.2.2.2.2.1)
def ZOu (p:PICT):Int:=(ZUw p).val
def ZUy:En:=Zg Z2b ZWw (λ_=>none) (λa=>ZOu a)
theorem ZKN:Za prog 273 ZUy:=
 pureQ 7 [] [] _ _ trivial Tryz.func273 Tryz.call273 trivial
def ZpN (p:PICT):RT (Option (Int)):=
 let x1:=p.2.2.2.2.2.2.2.2.2.2.2.2.2.2
 let x2:=x1.2
 let x3:=x2.1
 let x4:=x1.1
 let x5:=x2.2.1
 .br (ZwU (ZOu p) x3 x4 x5 p.2.2.2.2.2.2.2.2.2.1) (Ls (ZKJ (ZOu p) x3 x4 x5 p.2.2.2.2.2.2.2.2.2.1)) Ln
def Za8 (p:PICT):Int:=getO Z3u.Df (ZpN p).val
def Zlj (p:PICT):Bool:=okB (ZpN p).val
def Zw4:En:=Zg Z2b Z3u (λa=>some (Zlj a)) (λa=>Za8 a)
theorem ZpM:Za prog 268 Zw4:=
 pureP 7 [(273,ZUy),(344,ZUr)] [] _ _ ⟨ZKN,ZUq,Tv⟩ Tryz.func268 Tryz.call268 trivial
def ZBp (p:PICT):RT (Option (Bool)):=
 .br (Zlj p) (Ls (decide (Za8 p>=0))) Ln
def Z5D (p:PICT):Bool:=getO Zqd.Df (ZBp p).val
def ZUD (p:PICT):Bool:=okB (ZBp p).val
def Z8a:En:=Zg Z2b Zqd (λa=>some (ZUD a)) (λa=>Z5D a)
theorem Z0f:Za prog 199 Z8a:=
 pureP 7 [(268,Zw4)] [] _ _ ⟨ZpM,Tv⟩ Tryz.func199 Tryz.call199 trivial
def Zw2 (p:PICT) (l:Int):RT PICT:=
 let x1:=p.2.2.2.2.2.2.2.2.2.2.2.2.2
 .Lf ((p.1,p.2.1,p.2.2.1,p.2.2.2.1,p.2.2.2.2.1,p.2.2.2.2.2.1,p.2.2.2.2.2.2.1,p.2.2.2.2.2.2.2.1,p.2.2.2.2.2.2.2.2.1,p.2.2.2.2.2.2.2.2.2.1,p.2.2.2.2.2.2.2.2.2.2.1,p.2.2.2.2.2.2.2.2.2.2.2.1,l,andI u8 (orI u8 x1.1 (Z8 u8 l p.2.2.2.2.2.2.2.2.2.2.2.2.1)) l,x1.2))
def ZFT (p:PICT) (l:Int):PICT:=(Zw2 p l).val
def Z0e:En:=Zg ZIZ Z2j (λ_=>none) (λa=>ZFT a.1 a.2)
theorem ZOw:Za prog 198 Z0e:=
 pureQ 31 [] [] _ _ trivial Tryz.func198 Tryz.call198 trivial
def ZwY (p:PICT) (x:Int):RT (Option PICT):=
 let x1:=p.2.2.2.2.2.2.2.2.2.2.2.2.2
 let x2:=x1.2
 .br (decide (0<=x)) (.br (decide (0<=x)) (Ls ((p.1,p.2.1,p.2.2.1,p.2.2.2.1,p.2.2.2.2.1,p.2.2.2.2.2.1,p.2.2.2.2.2.2.1,p.2.2.2.2.2.2.2.1,p.2.2.2.2.2.2.2.2.1,p.2.2.2.2.2.2.2.2.2.1,p.2.2.2.2.2.2.2.2.2.2.1,p.2.2.2.2.2.2.2.2.2.2.2.1,p.2.2.2.2.2.2.2.2.2.2.2.2.1,Z8 u8 x1.1 (shlI u8 1 x),orI u8 x2.1 (shlI u8 1 x),x2.2))) Ln) Ln
def ZtO (p:PICT) (x:Int):PICT:=getO Z2j.Df (ZwY p x).val
def Zli (p:PICT) (x:Int):Bool:=okB (ZwY p x).val
def ZFQ:En:=Zg ZQ5 Z2j (λa=>some (Zli a.1 a.2)) (λa=>ZtO a.1 a.2)
theorem ZBo:Za prog 271 ZFQ:=
 pureP 31 [] [] _ _ trivial Tryz.func271 Tryz.call271 trivial
def ZKS (p:PICT) (x:Int):RT (Option PICT):=
 let x1:=p.2.2.2.2.2.2.2.2.2.2.2.2.2
 let x2:=x1.2
 let x3:=x2.2
 let x4:=x3.2
 .br (decide (0<=x)) (Ls ((p.1,p.2.1,p.2.2.1,p.2.2.2.1,p.2.2.2.2.1,p.2.2.2.2.2.1,p.2.2.2.2.2.2.1,p.2.2.2.2.2.2.2.1,p.2.2.2.2.2.2.2.2.1,p.2.2.2.2.2.2.2.2.2.1,p.2.2.2.2.2.2.2.2.2.2.1,p.2.2.2.2.2.2.2.2.2.2.2.1,p.2.2.2.2.2.2.2.2.2.2.2.2.1,x1.1,Z8 u8 x2.1 (shlI u8 1 x),x3.1,bif p.2.2.2.2.2.2.2.2.1 then x else x4.1,x4.2))) Ln
def ZOx (p:PICT) (x:Int):PICT:=getO Z2j.Df (ZKS p x).val
def ZtP (p:PICT) (x:Int):Bool:=okB (ZKS p x).val
def ZUG:En:=Zg ZQ5 Z2j (λa=>some (ZtP a.1 a.2)) (λa=>ZOx a.1 a.2)
theorem ZKR:Za prog 272 ZUG:=
 pureP 31 [] [] _ _ trivial Tryz.func272 Tryz.call272 trivial
def ZFW (p:PICT) (v:Int):RT PICT:=
 let x1:=p.2.2.2.2.2.2.2.2.2.2.2.2.2
 let x2:=x1.2
 let x3:=x2.2
 let x4:=x3.1
 .Lf ((bif p.1==2 then bif p.2.2.2.1 then bif p.2.2.2.2.1 then 4 else 0 else 3 else bif p.1==3 then bif p.2.2.2.2.1 then 4 else 0 else bif p.1==4 then 0 else p.1,p.2.1,p.2.2.1,p.2.2.2.1,p.2.2.2.2.1,p.2.2.2.2.2.1,bif p.1==2 then v else p.2.2.2.2.2.2.1,bif p.1==2 then p.2.2.2.2.2.2.2.1 else bif p.1==3 then p.2.2.2.2.2.2.2.1 else bif p.1==4 then andI u8 v 2 !=0 else p.2.2.2.2.2.2.2.1,p.2.2.2.2.2.2.2.2.1,p.2.2.2.2.2.2.2.2.2.1,p.2.2.2.2.2.2.2.2.2.2.1,p.2.2.2.2.2.2.2.2.2.2.2.1,p.2.2.2.2.2.2.2.2.2.2.2.2.1,x1.1,x2.1,bif p.1==2 then x4 else bif p.1==3 then x4 else bif p.1==4 then x4 else v,x3.2))
def ZKV (p:PICT) (v:Int):PICT:=(ZFW p v).val
def ZUI:En:=Zg ZIZ Z2j (λ_=>none) (λa=>ZKV a.1 a.2)
theorem ZUH:Za prog 274 ZUI:=
 pureQ 35655743 [] [] _ _ trivial Tryz.func274 Tryz.call274 trivial
def ZBq (p:PICT) (v:Int):RT (Option PICT):=
 let x1:=p.2.2.2.2.2.2.2.2.2.2.2.2.2
 let x2:=x1.2
 let x3:=x2.1
 let x4:=x2.2
 let x5:=x4.1
 let x6:Int:=bif p.2.2.2.2.2.2.2.2.2.1 then Z8 u8 x3 x5 else x3
 let x7:=x4.2
 let x8:=x7.1
 let x9:=bif shrI u8 v 5==1 then shrI u8 v 5==1 else shrI u8 v 5==5
 let x10:=ZjV x6 x8
 let x11:=decide (x10<0)
 let p1:=x11::(!x9)::(shrI u8 v 5==4)::(shrI u8 v 5==0)::[]
 let x12:= !shrI u8 v 5==3||decide (0<=i64.wrap (andI u8 v 7))
 let p2:=(!shrI u8 v 5==7)::(shrI u8 v 5==3)::(!x12)::x9::(shrI u8 v 5==4)::(shrI u8 v 5==0)::[]
 let x13:=Z8 u8 x3 (shlI u8 1 (i64.wrap (andI u8 v 7)))
 .br (ZiX x6 x8) (.br (orR p1 (decide (0<=x10))) (.br (orR p2 (decide (0<=i64.wrap (andI u8 v 7)))) (.br (shrI u8 v 5==0||(shrI u8 v 5==4||(x9||x12))) (Ls ((p.1,p.2.1,p.2.2.1,p.2.2.2.1,p.2.2.2.2.1,p.2.2.2.2.2.1,p.2.2.2.2.2.2.1,p.2.2.2.2.2.2.2.1,!shrI u8 v 5==0&&(shrI u8 v 5==4||p.2.2.2.2.2.2.2.2.1),p.2.2.2.2.2.2.2.2.2.1,p.2.2.2.2.2.2.2.2.2.2.1,p.2.2.2.2.2.2.2.2.2.2.2.1,p.2.2.2.2.2.2.2.2.2.2.2.2.1,x1.1,bif shrI u8 v 5==0 then x3 else bif shrI u8 v 5==4 then x3 else bif x9 then bif x11 then x3 else Z8 u8 x3 (shlI u8 1 x10) else bif shrI u8 v 5==3 then x13 else bif shrI u8 v 5==7 then x13 else x3,x5,bif shrI u8 v 5==0 then x8 else bif shrI u8 v 5==4 then x8 else bif x9 then bif x11 then x8 else bif shrI u8 v 5==5 then x10 else x8 else bif shrI u8 v 5==3 then x8 else bif shrI u8 v 5==7 then i64.wrap (andI u8 v 7) else bif shrI u8 v 5==6 then i64.wrap (andI u8 v 7) else x8,x7.2))) Ln) Ln) Ln) Ln
def Z0h (p:PICT) (v:Int):PICT:=getO Z2j.Df (ZBq p v).val
def ZKW (p:PICT) (v:Int):Bool:=okB (ZBq p v).val
def Z3j:En:=Zg ZIZ Z2j (λa=>some (ZKW a.1 a.2)) (λa=>Z0h a.1 a.2)
theorem Z0g:Za prog 275 Z3j:=
 pureP 36929657684375896319 [(346,ZFN)] [] _ _ ⟨ZBm,Tv⟩ Tryz.func275 Tryz.call275 trivial
def ZjW (p:PICT) (h:Bool) (v:Int):RT (Option PICT):=
 .br (h||(andI u8 v 16 !=0||(!andI u8 v 8==0||ZKW p v))) (.br (h) (Ls (ZKV p v)) (.br (andI u8 v 16 !=0) (Ls ((2,andI u8 v 8 !=0,andI u8 v 4 !=0,andI u8 v 2 !=0,andI u8 v 1 !=0,andI u8 v 224,0,false,false,false,false,false,p.2.2.2.2.2.2.2.2.2.2.2.2.1,0,0,0,7,0,0,false))) (.br (andI u8 v 8==0) (Ls (Z0h p v)) (Ls ((p.1,p.2.1,p.2.2.1,p.2.2.2.1,p.2.2.2.2.1,p.2.2.2.2.2.1,p.2.2.2.2.2.2.1,p.2.2.2.2.2.2.2.1,p.2.2.2.2.2.2.2.2.1,bif andI u8 v 64 !=0 then andI u8 v 32 !=0 else p.2.2.2.2.2.2.2.2.2.1,bif andI u8 v 2 !=0 then andI u8 v 1 !=0 else p.2.2.2.2.2.2.2.2.2.2.1,andI u8 v 4 !=0||p.2.2.2.2.2.2.2.2.2.2.2.1,p.2.2.2.2.2.2.2.2.2.2.2.2)))))) Ln
def ZFP (p:PICT) (h:Bool) (v:Int):PICT:=getO Z2j.Df (ZjW p h v).val
def ZwX (p:PICT) (h:Bool) (v:Int):Bool:=okB (ZjW p h v).val
def Z0d:En:=Zg ZIR Z2j (λa=>some (ZwX a.1 a.2.1 a.2.2)) (λa=>ZFP a.1 a.2.1 a.2.2)
theorem ZOt:Za prog 207 Z0d:=
 pureP 4398046519807 [(99,ZKQ),(274,ZUI),(275,Z3j)] [] _ _ ⟨ZKP,ZUH,Z0g,Tv⟩ Tryz.func207 Tryz.call207 trivial
def ZpI (p:PICT) (h:Bool):RT (Option (PICT×Int)):=
 let x1:= !p.2.2.2.2.2.2.2.2.2.2.2.1
 let x2:PICT:=(p.1,p.2.1,p.2.2.1,p.2.2.2.1,p.2.2.2.2.1,p.2.2.2.2.2.1,p.2.2.2.2.2.2.1,p.2.2.2.2.2.2.2.1,p.2.2.2.2.2.2.2.2.1,p.2.2.2.2.2.2.2.2.2.1,p.2.2.2.2.2.2.2.2.2.2.1,false,p.2.2.2.2.2.2.2.2.2.2.2.2)
 let x3:=h||(x1||Zlj x2)
 let x4:= !x3
 let x5:=Za8 x2
 let x6:=decide (x5<0)
 let p1:=x6::x1::h::x4::[]
 let x7:=Zli x2 x5
 let x8:=ZtO x2 x5
 let x9:=x8.2
 let x10:=x9.2
 let x11:=x10.2
 let x12:=x11.2
 let x13:=x12.2
 let x14:=x13.2
 let x15:=x14.2
 let x16:=x15.1
 let p2:=(!x16)::(!x7)::p1
 let x17:=p.2.2.2.2.2.2.2.2.2.2.2.2.2.2
 let x18:=ZOx x8 x5
 .br (orR p2 (ZtP x8 x5)) (.br (orR p1 x7) (.br (x3) (.br (h) (Ls ((p,x17.2.1))) (.br p.2.2.2.2.2.2.2.2.2.2.2.1 (.br (x6) (Ls ((x2,0))) (Ls (((R.sel Zab x16 x18 x8),u8.wrap (128+u8.wrap x5))))) (.br p.2.2.2.2.2.2.2.2.2.2.1 (Ls ((p,x17.1))) (Ls ((p,ZOu p)))))) Ln) Ln) Ln
def ZUA (p:PICT) (h:Bool):PICT×Int:=getO ZDA.Df (ZpI p h).val
def ZFR (p:PICT) (h:Bool):Bool:=okB (ZpI p h).val
def Z5B:En:=Zg ZQ8 ZDA (λa=>some (ZFR a.1 a.2)) (λa=>ZUA a.1 a.2)
theorem ZUz:Za prog 205 Z5B:=
 pureP 8589938943 [(268,Zw4),(271,ZFQ),(272,ZUG),(273,ZUy)] [] _ _ ⟨ZpM,ZBo,ZKR,ZKN,Tv⟩ Tryz.func205 Tryz.call205 trivial
def ZBr (p:PICT):RT (Option (PICT×Int)):=
 let x1:=p.2.2.2.2.2.2.2.2.2.2.2.2.2
 let x2:=x1.2
 let x3:=x2.2
 let x4:=x3.2
 let x5:=x4.2
 let x6:=x5.1
 let x7:=x6==0
 let x8:= !x7
 let x9:=x8||Zlj p
 let x10:=p.2.2.2.2.2.2.2.2.2.2.2.2.1
 let x11:=x1.1
 let x12:=x2.1
 let x13:=x3.1
 let x14:=x4.1
 let x15:=x5.2
 let x16:=x15.1
 let x17:PICT:=(p.1,p.2.1,p.2.2.1,p.2.2.2.1,p.2.2.2.2.1,p.2.2.2.2.2.1,p.2.2.2.2.2.2.1,p.2.2.2.2.2.2.2.1,p.2.2.2.2.2.2.2.2.1,p.2.2.2.2.2.2.2.2.2.1,p.2.2.2.2.2.2.2.2.2.2.1,p.2.2.2.2.2.2.2.2.2.2.2.1,x10,x11,x12,x13,x14,x6,x16,decide (Za8 p<0))
 let x18:=ZtO x17 (Za8 p)
 let x19:=x18.2
 let x20:=x19.2
 let x21:=x20.2
 let x22:=x21.2
 let x23:=x22.2
 let x24:=x23.2
 let x25:=x24.2
 let x26:=x25.2
 let x27:=x26.2
 let x28:=x27.2
 let x29:=x28.2
 let x30:=x29.2
 let x31:=x30.2
 let x32:=x31.2
 let x33:=x32.2
 let x34:=x33.2
 let x35:PICT:=(p.1,p.2.1,p.2.2.1,p.2.2.2.1,p.2.2.2.2.1,p.2.2.2.2.2.1,p.2.2.2.2.2.2.1,p.2.2.2.2.2.2.2.1,p.2.2.2.2.2.2.2.2.1,p.2.2.2.2.2.2.2.2.2.1,p.2.2.2.2.2.2.2.2.2.2.1,p.2.2.2.2.2.2.2.2.2.2.2.1,x10,x11,x12,x13,x14,2,x15)
 let x36:=andI i64 x16 7
 let x37:=x15.2
 let x38:=p.2.2.2.2.2.2.2.1&& !x37
 let x39:PICT:=(p.1,p.2.1,p.2.2.1,p.2.2.2.1,p.2.2.2.2.1,p.2.2.2.2.2.1,p.2.2.2.2.2.2.1,p.2.2.2.2.2.2.2.1,p.2.2.2.2.2.2.2.2.1,p.2.2.2.2.2.2.2.2.2.1,p.2.2.2.2.2.2.2.2.2.2.1,p.2.2.2.2.2.2.2.2.2.2.2.1,x10,x11,x12,x13,x14,0,x15)
 let x40:=ZOx x39 x36
 let x41:=x40.2
 let x42:=x41.2
 let x43:=x42.2
 let x44:=x43.2
 let x45:=x44.2
 let x46:=x45.2
 let x47:Int:=bif x38 then x46.1 else p.2.2.2.2.2.2.1
 let x48:=x46.2
 let x49:=x48.2
 let x50:=x49.2
 let x51:=x50.2
 let x52:=x51.2
 let x53:=x52.2
 let x54:=x53.2
 let x55:=x54.2
 let x56:=x55.2
 let x57:=x56.2
 let x58:=x57.2
 let x59:=x58.2
 .br (!x9||(x8||(decide (Za8 p<0)||Zli x17 (Za8 p)))) (.br (x9) (.br (x7) (Ls (((bif decide (Za8 p<0) then p.1 else x18.1,bif decide (Za8 p<0) then p.2.1 else x19.1,bif decide (Za8 p<0) then p.2.2.1 else x20.1,bif decide (Za8 p<0) then p.2.2.2.1 else x21.1,bif decide (Za8 p<0) then p.2.2.2.2.1 else x22.1,bif decide (Za8 p<0) then p.2.2.2.2.2.1 else x23.1,bif decide (Za8 p<0) then p.2.2.2.2.2.2.1 else x24.1,bif decide (Za8 p<0) then p.2.2.2.2.2.2.2.1 else x25.1,bif decide (Za8 p<0) then p.2.2.2.2.2.2.2.2.1 else x26.1,bif decide (Za8 p<0) then p.2.2.2.2.2.2.2.2.2.1 else x27.1,bif decide (Za8 p<0) then p.2.2.2.2.2.2.2.2.2.2.1 else x28.1,bif decide (Za8 p<0) then p.2.2.2.2.2.2.2.2.2.2.2.1 else x29.1,bif decide (Za8 p<0) then x10 else x30.1,bif decide (Za8 p<0) then x11 else x31.1,bif decide (Za8 p<0) then x12 else x32.1,bif decide (Za8 p<0) then x13 else x33.1,bif decide (Za8 p<0) then x14 else x34.1,1,bif decide (Za8 p<0) then 7 else Za8 p,bif decide (Za8 p<0) then decide (Za8 p<0) else x34.2.2.2),205))) (.br (x6==1) (.br p.2.2.1 (Ls ((x35,u8.wrap (andI u8 p.2.2.2.2.2.1 224+u8.wrap (i64.wrap (4*x36)))))) (Ls ((x35,u8.wrap (andI u8 p.2.2.2.2.2.1 192+u8.wrap (i64.wrap (8*x36))))))) (.br (!x38||ZtP x39 x36) (Ls (((bif x38 then x40.1 else p.1,bif x38 then x41.1 else p.2.1,bif x38 then x42.1 else p.2.2.1,bif x38 then x43.1 else p.2.2.2.1,bif x38 then x44.1 else p.2.2.2.2.1,bif x38 then x45.1 else p.2.2.2.2.2.1,x47,bif x38 then x48.1 else p.2.2.2.2.2.2.2.1,bif x38 then x49.1 else p.2.2.2.2.2.2.2.2.1,bif x38 then x50.1 else p.2.2.2.2.2.2.2.2.2.1,bif x38 then x51.1 else p.2.2.2.2.2.2.2.2.2.2.1,bif x38 then x52.1 else p.2.2.2.2.2.2.2.2.2.2.2.1,bif x38 then x53.1 else x10,bif x38 then x54.1 else x11,bif x38 then x55.1 else x12,bif x38 then x56.1 else x13,bif x38 then x57.1 else x14,bif x38 then x58.1 else 0,bif x38 then x59.1 else x16,bif x38 then x59.2 else x37),x47))) Ln))) Ln) Ln
def Z5E (p:PICT):PICT×Int:=getO ZDA.Df (ZBr p).val
def ZUK (p:PICT):Bool:=okB (ZBr p).val
def Z8b:En:=Zg Z2b ZDA (λa=>some (ZUK a)) (λa=>Z5E a)
theorem Z0i:Za prog 203 Z8b:=
 pureP 134219839 [(268,Zw4),(271,ZFQ),(272,ZUG)] [] _ _ ⟨ZpM,ZBo,ZKR,Tv⟩ Tryz.func203 Tryz.call203 trivial
def ZYe (d:QT4):RT (Bool):=
 .Lf (decide (d.2.2>0))
def Z1P (d:QT4):Bool:=(ZYe d).val
def Z3X:En:=Zg ZsK Zqd (λ_=>none) (λa=>Z1P a)
theorem ZMo:Za prog 141 Z3X:=
 pureQ 7 [] [] _ _ trivial Tryz.func141 Tryz.call141 trivial
def ZIl (d:QT4) (r:Int):RT (Int):=
 .br (andI i64 r 3==0) (.Lf (u8.wrap d.1)) (.br (andI i64 r 3==1) (.Lf (u8.wrap (shrI u16 d.1 8))) (.br (andI i64 r 3==2) (.Lf d.2.1) (.Lf (u8.wrap d.2.2))))
def ZMp (d:QT4) (r:Int):Int:=(ZIl d r).val
def Z7g:En:=Zg ZIW ZWw (λ_=>none) (λa=>ZMp a.1 a.2)
theorem ZYf:Za prog 206 Z7g:=
 pureQ 266399 [] [] _ _ trivial Tryz.func206 Tryz.call206 trivial
def Zzb (d:QT4) (r:Int) (v:Int):RT (QT4):=
 .Lf ((bif andI i64 r 3==0 then orI u16 (andI u16 d.1 65280) (u16.wrap v) else bif andI i64 r 3==1 then orI u16 (andI u16 d.1 255) (shlI u16 (u16.wrap v) 8) else d.1,bif andI i64 r 3==0 then d.2.1 else bif andI i64 r 3==1 then d.2.1 else bif andI i64 r 3==2 then v else d.2.1,bif andI i64 r 3==0 then d.2.2 else bif andI i64 r 3==1 then d.2.2 else bif andI i64 r 3==2 then d.2.2 else bif andI i64 r 3==3 then i64.wrap v else d.2.2))
def ZIf (d:QT4) (r:Int) (v:Int):QT4:=(Zzb d r v).val
def Z1N:En:=Zg ZzQ ZzR (λ_=>none) (λa=>ZIf a.1 a.2.1 a.2.2)
theorem ZQh:Za prog 208 Z1N:=
 pureQ 4563665535 [] [] _ _ trivial Tryz.func208 Tryz.call208 trivial
def ZYc (d:QT4):RT ((QT4)×(Int×Int)×Bool):=
 .br (!Z1P d) (.Lf (((0,0,0),(0,0),false))) (.Lf (((u16.wrap (d.1+1),d.2.1,i64.wrap (d.2.2-1)),(d.1,d.2.1),true)))
def Z7f (d:QT4):(QT4)×(Int×Int)×Bool:=(ZYc d).val
def Z8Y:En:=Zg ZsK ZnV (λ_=>none) (λa=>Z7f a)
theorem Z1O:Za prog 142 Z8Y:=
 pureQ 63 [(141,Z3X)] [] _ _ ⟨ZMo,Tv⟩ Tryz.func142 Tryz.call142 trivial
def mapG {α β:Type} (φ:α->β):Go1 α->Go1 β
 | .cont a=>.cont (φ a)
 | .brk a=>.brk (φ a)
 | .ret a=>.ret (φ a)
theorem ZJt {α β:Type} (φ:α->β) {f:α->Option (Go1 α)} {g:β->Option (Go1 β)} (h:∀a,g (φ a)=(f a).map (mapG φ)):∀(n:Nat) (a:α),runL g n (φ a)=(runL f n a).map λr=>(r.1,φ r.2)
 |0,a=>rfl
 |n+1,a=>by
  unfold runL;rw[h a];cases hf:f a with
  |none=>rfl
  |some r=>cases r with
   |cont a'=>exact ZJt φ h n a'
   |brk a'=>rfl
   |ret a'=>rfl
theorem ZJv {β:Type} (φ:α->β) {f:α->RT (Option (Go1 α))} {g:β->RT (Option (Go1 β))} (h:∀a,(g (φ a)).val=((f a).val).map (mapG φ)) (fl:Bool) (n:Nat) (a:α):
  runF fl g (λ_=>n) (φ a)=(runF fl f (λ_=>n) a).map λr=>(r.1,φ r.2):=by
 unfold runF;rw[ZJt φ h n a];cases runL (λa=>(f a).val) n a with
 |none=>rfl
 |some r=>obtain⟨b,d⟩:=r;cases fl<;>cases b<;>rfl
theorem ZP8:(List.range 256).all (λs=>(List.range 8).all λk=>(ZiW (s:Int) (k:Int)).val==some (Zdx (s:Int) (k:Int))&&Ziq (s:Int) (k:Int))=true:=by kernel_rfl
theorem ZDe (k:Int):andI .i64 (andI .i64 k 7) 7=andI .i64 k 7:=by
 obtain⟨h0,h1⟩:=and7 k;generalize andI .i64 k 7=v at*;have:v=0\/v=1\/v=2\/v=3\/v=4\/v=5\/v=6\/v=7:=by omega
 rcases this with rfl|rfl|rfl|rfl|rfl|rfl|rfl|rfl<;>decide
def phiK (a:QT23):QT23:=(a.1,andI .i64 a.2.1 7,a.2.2)
theorem Z0a (s k:Int):(ZiW s k).val=(ZiW s (andI .i64 k 7)).val:=by
 have h:=ZJv phiK (f:=ZdX) (g:=ZdX) (by
  rintro⟨s,k,r,i,u⟩;simp only[ZdX,phiK,RT.val,ZDe]
  cases h3:(andI u8 (shrI u8 s (andI i64 (i64.wrap (andI i64 k 7+i)) 7)) 1==1)<;>by_cases h1:i<=8<;>by_cases h2:0<=andI i64 (i64.wrap (andI i64 k 7+i)) 7<;>simp[h1,h2,mapG,phiK]) true 9 (s,k,0,1,())
 have h':runF true ZdX (λ_=>9) (s,andI .i64 k 7,0,1,())=(runF true ZdX (λ_=>9) (s,k,0,1,())).map λr=>(r.1,phiK r.2):=h
 simp only[ZiW,RT.val,h'];cases runF true ZdX (λ_=>9) (s,k,0,1,()) with
 |none=>rfl
 |some r=>obtain⟨b,d⟩:=r;cases b<;>rfl
theorem Z4j (l k:Int):Zdm l (andI .i64 k 7)=Zdm l k:=by simp only[Zdm,ZIX,RT.val,ZDe]
theorem Z4p (s k:Int):(Zl4 s k).val=(Zl4 s (andI .i64 k 7)).val:=by
 have h:=ZJv phiK (f:=Zc4) (g:=Zc4) (by
  rintro⟨s,k,r,i,u⟩;simp only[Zc4,phiK,RT.val,Z4j]
  cases h3:vOnC s i<;>by_cases h1:i<8<;>by_cases q1:r<0<;>by_cases q2:Zdm i k<Zdm r k<;>cases vOn s i<;>simp[h1,q1,q2,mapG,phiK]) false 9 (s,k,-1,0,())
 have h':runF false Zc4 (λ_=>9) (s,andI .i64 k 7,-1,0,())=(runF false Zc4 (λ_=>9) (s,k,-1,0,())).map λr=>(r.1,phiK r.2):=h
 simp only[Zl4,RT.val,h'];cases runF false Zc4 (λ_=>9) (s,k,-1,0,()) with
 |none=>rfl
 |some r=>rfl
theorem ZH7 (s k:Int) (hs:inR .u8 s):ZiX s k=true/\Ziq s k=true/\ZjV s k=Zdx s k:=by
 obtain⟨h0,h1⟩:=and7 k;rw[Zfj] at hs;obtain⟨a,rfl⟩:∃a:Nat,s=(a:Int):=⟨s.toNat,by omega⟩;obtain⟨b,hb⟩:∃b:Nat,andI .i64 k 7=(b:Int):=⟨(andI .i64 k 7).toNat,by omega⟩;have key:=YW.1 (YW.1 ZP8 a (by simp;omega)) b (by simp;omega);simp only[Yb,Yat] at key;obtain⟨k1,k2⟩:=key;have e1:=Z0a (a:Int) k;have e2:=Z4p (a:Int) k;rw[hb] at e1 e2;rw[k1] at e1;have e3:Zdx (a:Int) k=Zdx (a:Int) (b:Int):=by simp only[Zdx,e2]
 have e4:Ziq (a:Int) k=true:=by simp only[Ziq,e2];exact k2
 refine⟨by simp only[ZiX,e1,okB],e4,?_⟩;simp only[ZjV,e1,getO,e3]
theorem Z4Z (l k:Int):ZBl l k=Zdm l k:=by
 simp only[ZBl,ZFL,Zdm,ZIX,RT.val];obtain⟨a0,a1⟩:=and7 l;obtain⟨b0,b1⟩:=and7 k;generalize andI .i64 l 7=a at*;generalize andI .i64 k 7=b at*;obtain⟨x,rfl⟩:∃x:Nat,a=(x:Int):=⟨a.toNat,by omega⟩;obtain⟨y,rfl⟩:∃y:Nat,b=(y:Int):=⟨b.toNat,by omega⟩;have key:(List.range 8).all (λx=>(List.range 8).all λy=>andI i64 (i64.wrap (i64.wrap ((x:Int)-(y:Int))+7)) 7==andI i64 (i64.wrap (i64.wrap ((x:Int)-(y:Int))+15)) 7)=true:=by kernel_rfl
 have:=YW.1 (YW.1 key x (by simp;omega)) y (by simp;omega);simpa using this
theorem ZKL (r m s k:Int) (p:Bool) (hs:inR .u8 s):ZwU r m s k p=true/\ZsO r m s k p=true/\ZKJ r m s k p=ZDD r m s k p:=by
 obtain⟨a1,a2,a3⟩:=ZH7 (Z8 u8 r m) k (Zaw _ _);have hb:inR .u8 (ZcG m s p):=by
  cases p
  ·simpa [ZcG,ZkO,RT.val] using hs
  ·have:ZcG m s true=Z8 u8 s m:=by simp[ZcG,ZkO,RT.val]
   rw[this];exact Zaw _ _
 have eb:(bif p then Z8 u8 s m else s)=ZcG m s p:=by cases p<;>simp[ZcG,ZkO,RT.val]
 obtain⟨b1,b2,b3⟩:=ZH7 (ZcG m s p) k hb;have h1:(ZpF r m s k p).val=(Zl3 r m s k p).val:=by
  simp only[ZpF,Zl3,RT.val,eb,a1,a2,b1,b2,a3,b3,Z4Z,Ya,Yh];generalize Zdx (Z8 u8 r m) k=x;generalize Zdx (ZcG m s p) k=y;by_cases q1:x<0
  ·have:¬x>=0:=by omega
   simp[q1,this]
  ·have q1':x>=0:=by omega
   by_cases q2:y<0
   ·have:¬y>=0:=by omega
    simp[q1,q1',q2,this]
   ·have q2':y>=0:=by omega
    by_cases q3:Zdm x k<Zdm y k
    ·have:¬Zdm x k>=Zdm y k:=by omega
     simp[q1,q1',q2,q2',q3,this]
    ·have q3':Zdm x k>=Zdm y k:=by omega
     simp[q1,q1',q2,q2',q3,q3']
 have h2:ZsO r m s k p=true:=by simp only[ZsO,Zl3,RT.val,a2,b2,Ya];cases (decide (Zdx (Z8 u8 r m) k>=0)&&(decide (Zdx (ZcG m s p) k<0)||decide (Zdm (Zdx (Z8 u8 r m) k) k<Zdm (Zdx (ZcG m s p) k) k)))<;>rfl
 refine⟨?_,h2,by simp only[ZKJ,ZDD,h1]⟩;simp only[ZwU,h1];exact h2
theorem ZSz (p:PICT):ZOu p=vReq p:=by simp only[ZOu,ZUw,vReq,Z4h,RT.val]
theorem ZZA (p:PICT) (l:Int):ZFT p l=ZgW p l:=by simp only[ZFT,Zw2,ZgW,ZDB,RT.val]
theorem ZUU (p:PICT) (hs:inR .u8 p.2.2.2.2.2.2.2.2.2.2.2.2.2.2.1):Zlj p=true/\Zsh p=true/\Za8 p=vPck p:=by
 obtain⟨h1,h2,h3⟩:=ZKL (vReq p) p.2.2.2.2.2.2.2.2.2.2.2.2.2.2.2.1 p.2.2.2.2.2.2.2.2.2.2.2.2.2.2.1 p.2.2.2.2.2.2.2.2.2.2.2.2.2.2.2.2.1 p.2.2.2.2.2.2.2.2.2.1 hs;have e1:(ZpN p).val=some (ZDD (vReq p) p.2.2.2.2.2.2.2.2.2.2.2.2.2.2.2.1 p.2.2.2.2.2.2.2.2.2.2.2.2.2.2.1 p.2.2.2.2.2.2.2.2.2.2.2.2.2.2.2.2.1 p.2.2.2.2.2.2.2.2.2.1):=by simp only[ZpN,RT.val,ZSz,h1,h3,Ya]
 have e2:(ZDF p).val=some (ZDD (vReq p) p.2.2.2.2.2.2.2.2.2.2.2.2.2.2.2.1 p.2.2.2.2.2.2.2.2.2.2.2.2.2.2.1 p.2.2.2.2.2.2.2.2.2.2.2.2.2.2.2.2.1 p.2.2.2.2.2.2.2.2.2.1):=by simp only[ZDF,RT.val,h2,Ya]
 exact⟨by simp only[Zlj,e1,okB],by simp only[Zsh,e2,okB],by simp only[Za8,vPck,e1,e2]⟩
theorem Z3S (p:PICT) (hs:inR .u8 p.2.2.2.2.2.2.2.2.2.2.2.2.2.2.1):ZUD p=true/\ZMS p=true/\Z5D p=vInt p:=by
 obtain⟨h1,h2,h3⟩:=ZKL (vReq p) p.2.2.2.2.2.2.2.2.2.2.2.2.2.2.2.1 p.2.2.2.2.2.2.2.2.2.2.2.2.2.2.1 p.2.2.2.2.2.2.2.2.2.2.2.2.2.2.2.2.1 p.2.2.2.2.2.2.2.2.2.1 hs;obtain⟨g1,g2,g3⟩:=ZUU p hs;have e2:(ZMR p).val=some (decide (vPck p>=0)):=by simp only[ZMR,RT.val,g2,Ya]
 have e1:(ZBp p).val=some (decide (vPck p>=0)):=by simp only[ZBp,RT.val,g1,g3,ZSz,h1,h3,Ya]
 exact⟨by simp only[ZUD,e1,okB],by simp only[ZMS,e2,okB],by simp only[Z5D,vInt,e1,e2]⟩
theorem ZYa (d):Z1P d=ZQ d:=by simp only[Z1P,ZYe,ZQ,ZnX,RT.val]
theorem ZX9 (d:QT4) (r v:Int):ZIf d r v=Zgb d r v:=by
 obtain⟨h0,h3⟩:=and3 r;simp only[ZIf,Zzb,Zgb,ZuM,RT.val];generalize andI .i64 r 3=q at*;have:q=0\/q=1\/q=2\/q=3:=by omega
 rcases this with rfl|rfl|rfl|rfl<;>simp
theorem Z7e (d):Z7f d=ZaL d:=by simp only[Z7f,ZYc,ZaL,ZfE,RT.val,ZYa]
theorem Z1L (d:QT4) (r:Int):ZkN d r=true/\ZMp d r=Zjk d r:=by
 obtain⟨h0,h3⟩:=and3 r;have hv:(ZkM d r).val=some (ZMp d r):=by
  simp only[ZkM,ZMp,ZIl,RT.val];generalize andI .i64 r 3=q at*;have:q=0\/q=1\/q=2\/q=3:=by omega
  rcases this with rfl|rfl|rfl|rfl<;>simp[iN,Le]
 exact⟨by simp only[ZkN,hv,okB],by simp only[Zjk,hv,getO]⟩
theorem ZZb (p:PICT) (x:Int):ZwY p x=ZsJ p x:=rfl
theorem ZR5 (p:PICT) (x:Int):ZtO p x=ZDz p x/\Zli p x=ZgV p x:=by simp only[ZtO,ZDz,Zli,ZgV,ZZb];exact⟨trivial,Tv⟩
theorem Z68 (p:PICT) (x:Int):ZKS p x=ZzU p x:=rfl
theorem Z3W (p:PICT) (x:Int):ZOx p x=ZMU p x/\ZtP p x=Zir p x:=by simp only[ZOx,ZMU,ZtP,Zir,Z68];exact⟨trivial,Tv⟩
theorem Z7j (p:PICT) (v:Int):ZKV p v=ZmN p v:=by simp only[ZKV,ZFW,ZmN,ZnZ,RT.val];cases p.2.2.2.1<;>rfl
theorem Z2u (p:PICT) (x:Int):ZtO p x=ZDz p x:=(ZR5 p x).1
theorem Z2t (p:PICT) (x:Int):Zli p x=ZgV p x:=(ZR5 p x).2
theorem Z8U (p:PICT) (x:Int):ZOx p x=ZMU p x:=(Z3W p x).1
theorem Z8T (p:PICT) (x:Int):ZtP p x=Zir p x:=(Z3W p x).2
theorem Z7p (p:PICT) (hs:inR .u8 p.2.2.2.2.2.2.2.2.2.2.2.2.2.2.1):(ZBr p).val=(ZMV p).val:=by
 obtain⟨g1,g2,g3⟩:=ZUU p hs;have hd:decide (vPck p>=0)= !decide (vPck p<0):=by
  by_cases h:vPck p<0
  ·have:¬vPck p>=0:=by omega
   simp[h,this]
  ·have:vPck p>=0:=by omega
   simp[h,this]
 simp only[ZBr,ZMV,RT.val,g1,g2,g3,Z2u,Z2t,Z8U,Z8T,hd];cases h:decide (vPck p<0)
 ·have h0:decide (0<=vPck p)=true:=by simp at h|-;omega
  simp only[ZDz,ZgV,ZsJ,RT.val,h0,getO,okB,Ye,Yl,Ya,Yc,Ys,Yi]
 ·simp only[Ye,Yl,Ya,Yc,Ys,Yi]
theorem Z37 (p:PICT) (hs:inR .u8 p.2.2.2.2.2.2.2.2.2.2.2.2.2.2.1):Z5E p=vAck p/\ZUK p=ZMW p:=by simp only[Z5E,vAck,ZUK,ZMW,Z7p p hs];exact⟨trivial,Tv⟩
