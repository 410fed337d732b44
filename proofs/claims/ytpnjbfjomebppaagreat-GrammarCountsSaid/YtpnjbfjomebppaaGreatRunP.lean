import Derived.Test.YtpnjbfjomebppaaGreatIsaQ
open Go.IntKind (u8 u16 i64)
open Go Go.S3 Go.Proofs Go.Proofs.Cells
set_option linter.unusedVariables false
set_option linter.unusedSimpArgs false
set_option maxRecDepth 100000
namespace Go.Proofs.YtpnjbfjomebppaaGreat
noncomputable section
theorem smCb {l:List Cell} (h:l.length<=1000000):smC l=true:=ZaY (by have:=mst;omega)
theorem smGb {l:List Z7} (h:l.length<=1000000):smG l=true:=ZaY (by have:=mst;omega)
def ZB (b:BRDT) (s:SYST) (i:INPT):SYST:=(s.1,s.2.1,(bif !b.2.2.2.2.2.1 then ZxG s.2.2.1 i.2.2.2.2.2.2.2.2.1 else s.2.2.1),s.2.2.2)
def Zb2 (b:BRDT) (s:SYST) (i:INPT):LINT:=
 (i.1&&decide (Zgd s>=ZHC b s.1.2.2.2.1),i.2.1||ZbT s.2.2.2.1,i.2.2.1,i.2.2.2.1,i.2.2.2.2.1,i.2.2.2.2.2.1,i.2.2.2.2.2.2.1,i.2.2.2.2.2.2.2.1,
  bif b.2.2.2.2.2.1 then andI .u8 i.2.2.2.2.2.2.2.2.1 1==1 else vInt s.2.2.1)
def busS (b:BRDT) (s:SYST) (i:INPT):SYST×Int:=
 let x:=s.1.2.2.2.1
 let q:=ZcU b (IntKind.wrap .u8 x.2.1)
 let d:=ZeP b (IntKind.wrap .u8 x.2.1)
 bif i.2.2.1||(ZU s.1 !=3|| !Zba x.1) then (s,0) else
 bif decide (x.1>=1)&&decide (x.1<=5) then (s,ZmS b.2.1 s.2.1 x.2.1) else
 bif x.1 !=6&&b.2.2.2.2.2.1 then (s,i.2.2.2.2.2.2.2.2.2) else
 bif x.1 !=6 then ((s.1,s.2.1,(vAck s.2.2.1).1,s.2.2.2),(vAck s.2.2.1).2) else
 bif q.2 then ((s.1,s.2.1,(ZHJ s.2.2.1 q.1).1,s.2.2.2),(ZHJ s.2.2.1 q.1).2) else
 bif d.2 then (s,ZDd s.2.2.2.1 d.1) else (s,i.2.2.2.2.2.2.2.2.2)
def Zf1 (b:BRDT) (s:SYST) (x:TY):SYST:=
 let q:=ZcU b (IntKind.wrap .u8 x.2.1)
 let d:=ZeP b (IntKind.wrap .u8 x.2.1)
 bif x.1 !=7 then (s.1,ZdR b.2.1 s.2.1 x.2.1 x.2.2.1,s.2.2) else
 (s.1,s.2.1,(bif q.2 then ZC5 s.2.2.1 q.1 x.2.2.1 else s.2.2.1),(bif q.2 then s.2.2.2.1 else bif d.2 then Zuk s.2.2.2.1 d.1 x.2.2.1 else s.2.2.2.1),s.2.2.2.2.1,
  s.2.2.2.2.2++[(IntKind.wrap .u8 x.2.1,x.2.2.1)])
def stepP (p:PICT) (n:Int):PICT:=
 (p.1,p.2.1,p.2.2.1,p.2.2.2.1,p.2.2.2.2.1,p.2.2.2.2.2.1,p.2.2.2.2.2.2.1,p.2.2.2.2.2.2.2.1,p.2.2.2.2.2.2.2.2.1,p.2.2.2.2.2.2.2.2.2.1,p.2.2.2.2.2.2.2.2.2.2.1,p.2.2.2.2.2.2.2.2.2.2.2.1,
  p.2.2.2.2.2.2.2.2.2.2.2.2.1,p.2.2.2.2.2.2.2.2.2.2.2.2.2.1,p.2.2.2.2.2.2.2.2.2.2.2.2.2.2.1,p.2.2.2.2.2.2.2.2.2.2.2.2.2.2.2.1,p.2.2.2.2.2.2.2.2.2.2.2.2.2.2.2.2.1,n,p.2.2.2.2.2.2.2.2.2.2.2.2.2.2.2.2.2.2)
def ZGH (p:PINT):Bool:=p.2.2.2.2.2.2.2.2.2.2.2.2.2.2.2.1
def Zt8 (s:SYST) (i:INPT):Bool:= !i.2.2.1&&(ZU s.1==3&&ZbF s.1.2.2.2.1.1)
def ZgA (b:BRDT) (s:SYST) (i:INPT):SYST:=
 let t:=ZB b s i
 let u:=busS b t i
 ((Zs u.1.1 (Zb2 b t i) u.2),u.1.2.1,u.1.2.2.1,u.1.2.2.2.1,Zgd t,u.1.2.2.2.2.2)
def ZeL (b:BRDT) (s:SYST) (i:INPT):SYST:=bif Zt8 s i then Zf1 b (ZgA b s i) s.1.2.2.2.1 else ZgA b s i
def pinS (b:BRDT) (s:SYST) (i:INPT):PINT:=Ze9 (busS b (ZB b s i) i).1.1 (Zb2 b (ZB b s i) i) (busS b (ZB b s i) i).2
def Zhq (b:BRDT) (s:SYST) (i:INPT):Bool:=ZGH (pinS b s i)&&ZbT (ZeL b s i).2.2.2.1
def ZGb (b:BRDT) (s:SYST) (i:INPT):SYST:=
 let w:=ZeL b s i
 bif Zhq b s i then (w.1,ZdR b.2.1 w.2.1 w.2.2.2.1.1 w.2.2.2.1.2.1,w.2.2.1,(IntKind.wrap .u16 (w.2.2.2.1.1+1),w.2.2.2.1.2.1,IntKind.wrap .i64 (w.2.2.2.1.2.2-1)),w.2.2.2.2) else w
def ZD1 (s:SYST) (r:Bool):SYST:=bif r then (s.1,s.2.1,stepP s.2.2.1 0,(s.2.2.2.1.1,s.2.2.2.1.2.1,0),s.2.2.2.2) else s
def ZaX (b:BRDT) (s:SYST) (i:INPT):SYST×PINT×LINT×Int×Cell×Bool:=
 (ZD1 (ZGb b s i) i.2.2.1,pinS b s i,Zb2 b (ZB b s i) i,(busS b (ZB b s i) i).2,
  (bif Zhq b s i then ((ZeL b s i).2.2.2.1.1,(ZeL b s i).2.2.2.1.2.1) else (0,0)),Zhq b s i)
theorem ZHB (b:BRDT) (x:TY) (hg:smG b.2.1=true):Zxf b x=true:=by
 unfold Zxf Zxe;simp only[RT.val,hg,Ye,Ya];cases decide (x.1>=1)&&decide (x.1<=5)
 ·cases x.1==6||x.1==7<;>rfl
 ·rfl
theorem ZAe (b:BRDT) (s:SYST) (i:INPT) (hg:smG b.2.1=true):Zi8 b s i=true/\ZnS b s i=Zb2 b s i:=by
 have hv:(ZgD b s i).val=some (Zb2 b s i):=by unfold ZgD Zb2;simp only[RT.val,ZLm,ZHB b _ hg,Ye,Ya,Bool.cond_self]
 exact⟨by simp only[Zi8,hv];rfl,by simp only[ZnS,hv,getO]⟩
theorem ZLc (b:BRDT) (s:SYST) (i:INPT) (hg:smG b.2.1=true) (hc:smC s.2.1=true):ZHF b s i=true/\wBus b s i=busS b s i:=by
 have hv:(ZCY b s i).val=some (busS b s i):=by
  unfold ZCY busS;simp only[RT.val,ZLp,ZHI,ZDb,hg,hc,ZaN,Zad,R.sel_eq,Yah,Ye,Yf,Yk,Ya];cases i.2.2.1||(ZU s.1 !=3|| !Zba s.1.2.2.2.1.1)
  ·cases decide (s.1.2.2.2.1.1>=1)&&decide (s.1.2.2.2.1.1<=5)
   ·cases s.1.2.2.2.1.1 !=6
    ·cases (ZcU b (IntKind.wrap .u8 s.1.2.2.2.1.2.1)).2
     ·cases (ZeP b (IntKind.wrap .u8 s.1.2.2.2.1.2.1)).2<;>rfl
     ·rfl
    ·cases b.2.2.2.2.2.1<;>rfl
   ·rfl
  ·rfl
 exact⟨by simp only[ZHF,hv];rfl,by simp only[wBus,hv,getO]⟩
theorem ZCA (b:BRDT) (s:SYST) (x:TY) (hg:smG b.2.1=true) (hc:smC s.2.1=true) (ho:s.2.2.2.2.2.length<=1000000):ZnR b s x=true/\Zxd b s x=Zf1 b s x:=by
 have hms:=mst;have h1:Nat.ble (List.length s.2.2.2.2.2) most=true:=ZaY (by omega);have h2:∀y:Int×Int,Nat.ble (List.length (s.2.2.2.2.2++[y])) most=true:=λy=>ZaY (by simp;omega)
 have hv:(Zjx b s x).val=some (Zf1 b s x):=by
  unfold Zjx Zf1;simp only[RT.val,ZC3,h1,h2,hg,hc,R.sel_eq,Yah,Ye,Yf,Yk,Ya,List.nil_append];cases x.1 !=7
  ·rfl
  ·rfl
 exact⟨by simp only[ZnR,hv];rfl,by simp only[Zxd,hv,getO]⟩
theorem ZhI (b:BRDT) (s:SYST) (i:INPT):(busS b s i).1.1=s.1/\(busS b s i).1.2.1=s.2.1/\(busS b s i).1.2.2.2=s.2.2.2:=by
 unfold busS;dsimp only;cases i.2.2.1||(ZU s.1 !=3|| !Zba s.1.2.2.2.1.1)
 ·cases decide (s.1.2.2.2.1.1>=1)&&decide (s.1.2.2.2.1.1<=5)
  ·cases s.1.2.2.2.1.1 !=6
   ·cases (ZcU b (IntKind.wrap .u8 s.1.2.2.2.1.2.1)).2
    ·cases (ZeP b (IntKind.wrap .u8 s.1.2.2.2.1.2.1)).2<;>exact⟨rfl,rfl,rfl⟩
    ·exact⟨rfl,rfl,rfl⟩
   ·cases b.2.2.2.2.2.1<;>exact⟨rfl,rfl,rfl⟩
  ·exact⟨rfl,rfl,rfl⟩
 ·exact⟨rfl,rfl,rfl⟩
theorem Zrg (b:BRDT) (s:SYST) (x:TY):(Zf1 b s x).1=s.1/\(Zf1 b s x).2.1.length<=s.2.1.length+1/\(Zf1 b s x).2.2.2.2.2.length<=s.2.2.2.2.2.length+1:=by
 have:=ZqL b.2.1 s.2.1 x.2.1 x.2.2.1;unfold Zf1;dsimp only;cases x.1 !=7
 ·exact⟨rfl,by simp only[Yb];omega,by simp only[Yb];simp⟩
 ·exact⟨rfl,by simp only[Ya];omega,by simp only[Ya];omega⟩
theorem Zz6 (b:BRDT) (s:SYST) (i:INPT):(ZgA b s i).2.1=s.2.1/\(ZgA b s i).2.2.2.2.2=s.2.2.2.2.2:=by have h:=ZhI b (ZB b s i) i;unfold ZgA;simp only[h.1,h.2.1,h.2.2];exact⟨rfl,rfl⟩
theorem ZqK (b:BRDT) (s:SYST) (i:INPT):(ZeL b s i).1=(ZgA b s i).1/\(ZeL b s i).2.1.length<=s.2.1.length+1/\(ZeL b s i).2.2.2.2.2.length<=s.2.2.2.2.2.length+1:=by
 have h1:=Zz6 b s i;have h2:=Zrg b (ZgA b s i) s.1.2.2.2.1;rw[h1.1,h1.2] at h2;unfold ZeL;cases Zt8 s i
 ·exact⟨rfl,by simp only[Yb,h1.1];omega,by simp only[Yb,h1.2];omega⟩
 ·exact h2
theorem ZtZ (b:BRDT) (s:SYST) (i:INPT):(ZaX b s i).1.1=(ZgA b s i).1/\(ZaX b s i).1.2.1.length<=s.2.1.length+2/\(ZaX b s i).1.2.2.2.2.2.length<=s.2.2.2.2.2.length+1:=by have h1:=ZqK b s i;have h2:=ZqL b.2.1 (ZeL b s i).2.1 (ZeL b s i).2.2.2.1.1 (ZeL b s i).2.2.2.1.2.1;unfold ZaX ZD1 ZGb;dsimp only;cases Zhq b s i<;>cases i.2.2.1<;>simp only[Ya,Yb]<;>exact⟨h1.1,by omega,h1.2.2⟩
theorem ZCU (b:BRDT) (s:SYST) (i:INPT) (hg:smG b.2.1=true) (hc:s.2.1.length<=900000) (ho:s.2.2.2.2.2.length<=900000) (hk:s.1.2.2.1.length<=900000):
  ZnX b s i=true/\Zxo b s i=ZaX b s i:=by
 have hms:=mst;have hv:(ZjE b s i).val=some (ZaX b s i):=by
  have hr:(s.1,s.2.1,(bif !b.2.2.2.2.2.1 then ZxG s.2.2.1 i.2.2.2.2.2.2.2.2.1 else s.2.2.1),s.2.2.2)=ZB b s i:=rfl;have h1:=ZAe b (ZB b s i) i hg;have h2:=ZLc b (ZB b s i) i hg (smCb (by show s.2.1.length<=_;omega));have h3:=ZhI b (ZB b s i) i;have h4:ZDZ (busS b (ZB b s i) i).1.1=true:=by rw[h3.1];exact ZjV.2 (by show s.1.2.2.1.length+1<=_;omega)
  have h5:=Zz6 b s i;have h6:=ZCA b (ZgA b s i) s.1.2.2.2.1 hg (smCb (by rw[h5.1];omega)) (by rw[h5.2];omega);have h7:=ZqK b s i
  have hcs:(Zs (busS b (ZB b s i) i).1.1 (Zb2 b (ZB b s i) i) (busS b (ZB b s i) i).2,(busS b (ZB b s i) i).1.2.1,(busS b (ZB b s i) i).1.2.2.1,(busS b (ZB b s i) i).1.2.2.2.1,Zgd (ZB b s i),
   (busS b (ZB b s i) i).1.2.2.2.2.2)=ZgA b s i:=rfl
  have ht:∀d:QT6,ZgJ d=bif ZbT d then ((IntKind.wrap .u16 (d.1+1),d.2.1,IntKind.wrap .i64 (d.2.2-1)),(d.1,d.2.1),true) else ((0,0,0),(0,0),false):=λd=>by unfold ZgJ ZhP;simp only[RT.val];cases ZbT d<;>rfl
  have h8:smC (Zf1 b (ZgA b s i) s.1.2.2.2.1).2.1=true:=smCb (by have:=(Zrg b (ZgA b s i) s.1.2.2.2.1).2.1;rw[h5.1] at this;omega);have h9:smC (busS b (ZB b s i) i).1.2.1=true:=smCb (by rw[h3.2.1];show s.2.1.length<=_;omega);unfold ZjE;simp only[hr,RT.val,h1.1,h1.2,h2.1,h2.2,h4,clkX,hcs,h6.1,h6.2,ht,R.sel_eq,Ye,Ya];unfold ZaX ZD1 ZGb Zhq ZeL Zt8 pinS ZGH;dsimp only;cases !i.2.2.1&&(ZU s.1==3&&ZbF s.1.2.2.2.1.1)
  ·simp only[Yb,h9,hg,Yah,Ye,Ya];cases (Ze9 (busS b (ZB b s i) i).1.1 (Zb2 b (ZB b s i) i) (busS b (ZB b s i) i).2).2.2.2.2.2.2.2.2.2.2.2.2.2.2.2.1
   ·cases i.2.2.1<;>rfl
   ·have e:ZbT ((busS b (ZB b s i) i).1.2.2.2.1.1,(busS b (ZB b s i) i).1.2.2.2.1.2.1,(busS b (ZB b s i) i).1.2.2.2.1.2.2)=ZbT (ZgA b s i).2.2.2.1:=rfl;rw[e];cases ZbT (ZgA b s i).2.2.2.1<;>cases i.2.2.1<;>rfl
  ·simp only[Ya,h8,hg,Yah,Ye];cases (Ze9 (busS b (ZB b s i) i).1.1 (Zb2 b (ZB b s i) i) (busS b (ZB b s i) i).2).2.2.2.2.2.2.2.2.2.2.2.2.2.2.2.1
   ·cases i.2.2.1<;>rfl
   ·cases ZbT (Zf1 b (ZgA b s i) s.1.2.2.2.1).2.2.2.1<;>cases i.2.2.1<;>rfl
 exact⟨by simp only[ZnX,hv];rfl,by simp only[Zxo,hv,getO]⟩
def ZcJ {α:Type} (l:List α) (f:α->α):List α:=match l.getLast? with
 |some y=>l.dropLast++[f y]
 |none=>[]
variable {α:Type}
theorem ZaC (l:List α) (y:α) (f:α->α):ZcJ (l++[y]) f=l++[f y]:=by simp[ZcJ]
def ZlQ (ZW:TC) (l:List TC):TC:=l.getLastD ZW
theorem ZqM (l:List α) (y:α) (h:l.length<=1000000):IntKind.wrap .i64 (iN (l++[y]).length-1)=(l.length:Int):=by simp only[iN,Yh,List.length_cons,List.length_nil];rw[Zv _ (by omega) (by omega)];omega
theorem ZzT {r:R} (l:List r.den) (y:r.den):R.get r (l++[y]) (l.length:Int)=y:=by simp[R.get]
theorem ZxW (l:List α) (y z:α):setI (l++[y]) (l.length:Int) z=l++[z]:=by simp[setI]
theorem ZxY (l:List α) (y:α):Ze (l.length:Int) (l++[y]).length=true:=Zw.2 ⟨by omega,by simp;omega⟩
def Zhu (t:Int):Int:=bif t==8 then 2 else bif t==9 then 3 else bif t==10 then 4 else 1
def cycN (c:CORT) (t:Int) (x:TY):TY:=bif t==8 then (0,0,0,0) else bif t==9 then (0,c.1.2.1.2.2.2.2.2.2.2.2.2,0,0) else bif t==10 then (0,0,0,0) else x
def Zas (c:CORT):Bool:=c.1.2.2.1
def sodC (c:CORT):Bool:=c.1.2.2.2.2.2.2.2.2.2.2.2.2
def Zrl (y:ITMT) (k:Int) (c:CORT):Bool:=y.1==k&&(y.2.2.2.2.1==Zas c&&y.2.2.2.2.2==sodC c)
def Zqd (y:ITMT):ITMT:=(y.1,y.2.1,y.2.2.1,IntKind.wrap .i64 (y.2.2.2.1+1),y.2.2.2.2)
def Zin (l:List ITMT) (k:Int) (c:CORT) (n:ITMT):List ITMT:=match l.getLast? with
 |some y=>bif Zrl y k c then ZcJ l Zqd else l++[n]
 |none=>l++[n]
def ZbZ (l:List ITMT) (c:CORT) (x:TY) (t:Int):List ITMT:=
 bif Zhu t !=1 then Zin l (Zhu t) c (Zhu t,cycN c t x,0,1,Zas c,sodC c)
 else bif t==1 then l++[(1,cycN c t x,0,1,Zas c,sodC c)]
 else bif t==7 then ZcJ l (λy=>(y.1,cycN c t x,IntKind.wrap .i64 (y.2.2.1+1),y.2.2.2))
 else ZcJ l (λy=>(y.1,cycN c t x,y.2.2.1,IntKind.wrap .i64 (y.2.2.2.1+1),y.2.2.2.2))
def ZAb:TC:=(0,(0,0,0,0,0,0,0,(false,false,false,false,false,false,false),0,0),false,false,false,0,false,false,false,false,false,false,false)
def Zgc:LINT:=(false,false,false,false,false,false,false,false,false)
def rdS (c:CORT) (t d:Int):TY×List Int:=bif t !=3 then (c.2.2.2.1,c.2.2.1) else (Za4 c.1 c.2.2.2.1 d,c.2.2.1++[(Za4 c.1 c.2.2.2.1 d).2.2.1])
def finS (c:CORT) (l:LINT) (d:Int):TC×Bool:=
 bif l.2.2.1 then (ZAb,false) else
 bif !Zh4 c.2.2.2.2.1 (rdS c c.2.2.2.2.1 d).1 then (ZAb,false) else
 bif (Zg (Zf c.1 l) c.2.1 (rdS c c.2.2.2.2.1 d).2).2 then (ZAb,false) else (finX (Zf c.1 l) c.2.1 (rdS c c.2.2.2.2.1 d).2 l,true)
def Zga (c:CORT) (t d:Int):List Int:=bif t==3 then c.2.2.1++[(ZP c t d).2.2.1] else c.2.2.1
def evE (ev:List EVTT) (c:CORT) (l:LINT) (d:Int) (cell:Cell) (moved:Bool):List EVTT:=
 let e1:=bif (finS c l d).2 then ev++[ZeO (Zjz c.2.1,c.2.1,Zga c (ZU c) d,Zgc,false,false,false,false,0,0) (Zf c.1 l) l] else ev
 bif l.2.2.1 then (bif ZdF c then ev++[ZeO (6,c.2.1,c.2.2.1,Zgc,false,false,false,false,0,0) c.1 l] else ev)++[ZeO (4,0,[],Zgc,false,false,false,false,0,0) c.1 l]
 else bif moved then e1++[(5,0,[],Zgc,false,false,false,false,cell)] else e1
def evC (cp:List TC) (ZW:TC) (c:CORT) (after:CORT) (l:LINT) (d:Int) (moved:Bool):List TC:=
 let c1:=bif (finS c l d).2 then cp++[(finS c l d).1] else cp
 bif l.2.2.1 then (bif ZdF c then cp++[ZlQ ZW cp] else cp)++[after.1]
 else bif moved then c1++[ZlQ ZW cp] else c1
abbrev STT:=SYST×List PINT×List ITMT×List EVTT×List TC
def nowS (s:SYST) (i:INPT):Int:=bif i.2.2.1 then 10 else ZU s.1
def ZbD (b:BRDT) (ZW:TC) (st:STT) (i:INPT):STT:=
 let k:=ZaX b st.1 i
 (k.1,st.2.1++[k.2.1],ZbZ st.2.2.1 st.1.1 (ZP st.1.1 (nowS st.1 i) k.2.2.2.1) (nowS st.1 i),
  evE st.2.2.2.1 st.1.1 k.2.2.1 k.2.2.2.1 k.2.2.2.2.1 k.2.2.2.2.2,evC st.2.2.2.2 ZW st.1.1 k.1.1 k.2.2.1 k.2.2.2.1 k.2.2.2.2.2)
structure RunOk (b:BRDT) (st:STT) (n:Nat):Prop where
 g:smG b.2.1=true
 m:st.1.2.1.length<=100000+2*n
 o:st.1.2.2.2.2.2.length<=n
 k:st.1.1.2.2.1.length<=n
 t:st.2.1.length<=n
 it:st.2.2.1.length<=n
 ev:st.2.2.2.1.length<=2*n
 cp:st.2.2.2.2.length<=2*n
 ne:st.2.2.1=[]->ZU st.1.1=1
theorem ZIi (c:CORT) (t d:Int) (h:c.2.2.1.length<=1000000):Zd7 c t d=true/\Zgo c t d=rdS c t d:=by
 have hms:=mst;have h1:Nat.ble (List.length c.2.2.1) most=true:=ZaY (by omega);have h2:∀y:Int,Nat.ble (List.length (c.2.2.1++[y])) most=true:=λy=>ZaY (by simp;omega)
 have hv:(Zg2 c t d).val=some (rdS c t d):=by unfold Zg2 rdS Za4;simp only[RT.val,h1,h2,List.nil_append,Ye,Ya];cases t !=3<;>rfl
 exact⟨by simp only[Zd7,hv];rfl,by simp only[Zgo,hv,getO]⟩
theorem ZLa (c:CORT) (l:LINT) (d:Int) (h:c.2.2.1.length<=1000000):Zfr c l d=true/\ZgE c l d=finS c l d:=by
 have h1:=ZIi c c.2.2.2.2.1 d h;have hv:(ZdY c l d).val=some (finS c l d):=by
  unfold ZdY finS;simp only[RT.val,h1.1,h1.2,Ya];cases l.2.2.1
  ·cases Zh4 c.2.2.2.2.1 (rdS c c.2.2.2.2.1 d).1
   ·rfl
   ·cases (Zg (Zf c.1 l) c.2.1 (rdS c c.2.2.2.2.1 d).2).2<;>rfl
  ·rfl
 exact⟨by simp only[Zfr,hv];rfl,by simp only[ZgE,hv,getO]⟩
theorem ZCX (c:CORT) (t d:Int) (h:c.2.2.1.length<=1000000):ZnZ c t d=true/\Zxs c t d=Zga c t d:=by
 have hms:=mst;have h1:Nat.ble (List.length c.2.2.1) most=true:=ZaY (by omega);have h2:∀y:Int,Nat.ble (List.length (c.2.2.1++[y])) most=true:=λy=>ZaY (by simp;omega)
 have hv:(ZjG c t d).val=some (Zga c t d):=by unfold ZjG Zga;simp only[RT.val,h1,h2,List.nil_append,Ye,Ya]
 exact⟨by simp only[ZnZ,hv];rfl,by simp only[Zxs,hv,getO]⟩
theorem ZzK (ZW:TC) (l:List TC) (h:l.length<=1000000):
  (!decide (iN l.length>0)||Ze (IntKind.wrap .i64 (iN l.length-1)) l.length)=true/\R.sel ZX (decide (iN l.length>0)) (R.get ZX l (IntKind.wrap .i64 (iN l.length-1))) ZW=ZlQ ZW l:=by
 rcases Y3 l with rfl|⟨l',y,rfl⟩
 ·exact⟨rfl,by rw[R.sel_eq];rfl⟩
 ·simp only[YY,Yh,List.length_singleton] at h|-;have w:=ZqM l' y (by omega);have d:decide (iN (l'.length+1)>0)=true:=YA (by simp only[iN];omega);simp only[Yh,List.length_singleton] at w;rw[w,d,R.sel_eq];have:=ZxY l' y;simp only[Yh,List.length_singleton] at this;rw[this];exact⟨rfl,by simp only[Ya,ZlQ];rw[show R.get ZX (l'++[y]) (l'.length:Int)=y from ZzT (r:=ZX) l' y];simp⟩
theorem ZDY (b:BRDT) (l:List INPT) (i:Nat) (r0:RUNT) (s0:SYST) (ZW:TC) (st:STT) (n:Nat) (h:RunOk b st n) (hi:i<l.length) (hl:l.length<=100000) (hn:n<=200000):
  (Zeo (l,(l.length:Int),(i:Int),b,r0,st.1,s0,ZW,st.2.1,st.2.2.1,st.2.2.2.1,st.2.2.2.2,())).val=
   some (Go1.cont (l,(l.length:Int),((i+1:Nat):Int),b,r0,(ZbD b ZW st (R.get ZcP l (i:Int))).1,s0,ZW,(ZbD b ZW st (R.get ZcP l (i:Int))).2.1,(ZbD b ZW st (R.get ZcP l (i:Int))).2.2.1,
    (ZbD b ZW st (R.get ZcP l (i:Int))).2.2.2.1,(ZbD b ZW st (R.get ZcP l (i:Int))).2.2.2.2,())):=by
 have hms:=mst;obtain⟨s,tr,it,ev,cp⟩:=st;obtain⟨g,m,o,k,t,hit,hev,hcp,ne⟩:=h;simp only at g m o k t hit hev hcp ne;have d:decide ((i:Int)<(l.length:Int))=true:=YA (by omega);have hin:Ze (i:Int) l.length=true:=Zw.2 ⟨by omega,by omega⟩;have w:IntKind.wrap .i64 ((i:Int)+1)=((i+1:Nat):Int):=by rw[Zv _ (by omega) (by omega)];omega
 obtain⟨q,hq⟩:∃q,R.get ZcP l (i:Int)=q:=⟨_,rfl⟩;rw[hq];have hc:=ZCU b s q g (by omega) (by omega) (by omega);have hf:=ZLa s.1 (ZaX b s q).2.2.1 (ZaX b s q).2.2.2.1 (by omega);have hb:=ZCX s.1 (ZU s.1) (ZaX b s q).2.2.2.1 (by omega);have hlc:=ZzK ZW cp (by omega);have htr:∀x:PINT,Nat.ble (tr++[x]).length most=true:=λx=>ZaY (by simp;omega)
 have he1:∀x:EVTT,Nat.ble (ev++[x]).length most=true:=λx=>ZaY (by simp;omega)
 have he2:∀(c:Bool) (x y:EVTT),Nat.ble ((bif c then ev++[x] else ev)++[y]).length most=true:=λc x y=>ZaY (by cases c<;>simp<;>omega)
 have hc1:∀x:TC,Nat.ble (cp++[x]).length most=true:=λx=>ZaY (by simp;omega)
 have hc2:∀(c:Bool) (x y:TC),Nat.ble ((bif c then cp++[x] else cp)++[y]).length most=true:=λc x y=>ZaY (by cases c<;>simp<;>omega)
 have hg:Nat.ble (List.length s.1.2.2.1) most=true:=ZaY (by omega);obtain⟨T,hT⟩:∃T,(bif q.2.2.1 then (10:Int) else ZU s.1)=T:=⟨_,rfl⟩;have hT':nowS s q=T:=hT;rcases Y3 it with rfl|⟨it',y,rfl⟩
 ·have hTT:T=1\/T=10:=by
   rw[<-hT,ne rfl];cases q.2.2.1
   ·exact .inl rfl
   ·exact .inr rfl
  have w0:IntKind.wrap .i64 (iN ([]:List ITMT).length-1)= -1:=by decide
  have w1:decide ((-1:Int)>=0)=false:=by decide
  have w2:Ze (-1) ([]:List ITMT).length=false:=by decide
  have hi1:∀x:ITMT,Nat.ble [x].length most=true:=λx=>ZaY (by simp;omega)
  unfold Zeo;rcases hTT with rfl|rfl
  ·have e1:((1:Int)==1)=true:=rfl;have e8:((1:Int)==8)=false:=rfl;have e9:((1:Int)==9)=false:=rfl;have e10:((1:Int)==10)=false:=rfl;have e7:((1:Int)==7)=false:=rfl;have n1:((1:Int) !=1)=false:=rfl;simp only[RT.val,d,hin,w,hq,hT,hc.1,hc.2,hf.1,hf.2,hb.1,hb.2,hlc.1,hlc.2,htr,hi1,he1,he2,hc1,hc2,hg,w0,w1,w2,e1,e8,e9,e10,e7,n1,List.nil_append,ZaN,Zad,Ye,Yt,Yf,Yk,Yw,Yl,Y9,YD,YL,YP,Ya,Yb];unfold ZbD;rw[hT'];simp only[ZbZ,Zhu,cycN,e1,e8,e9,e10,e7,n1,Ya,Yb,List.nil_append];rfl
  ·have e1:((10:Int)==1)=false:=rfl;have e8:((10:Int)==8)=false:=rfl;have e9:((10:Int)==9)=false:=rfl;have e10:((10:Int)==10)=true:=rfl;have e7:((10:Int)==7)=false:=rfl;have n1:((4:Int) !=1)=true:=rfl;simp only[RT.val,d,hin,w,hq,hT,hc.1,hc.2,hf.1,hf.2,hb.1,hb.2,hlc.1,hlc.2,htr,hi1,he1,he2,hc1,hc2,hg,w0,w1,w2,e1,e8,e9,e10,e7,n1,List.nil_append,ZaN,Zad,Ye,Yt,Yf,Yk,Yw,Yl,Y9,YD,YL,YP,Ya,Yb];unfold ZbD;rw[hT'];simp only[ZbZ,Zhu,cycN,Zin,List.getLast?_nil,e1,e8,e9,e10,e7,n1,Ya,Yb,List.nil_append];rfl
 ·simp only[YY] at hit|-;have hlen:it'.length<=1000000:=by simp at hit;omega
  have w0:=ZqM it' y hlen;have w1:decide ((it'.length:Int)>=0)=true:=YA (by omega);have w2:=λz:ITMT=>ZxY it' z
  have w3:=λz:ITMT=>ZzT (r:=Z0) it' z
  have w4:=λz:ITMT=>ZxW it' y z
  have w5:=λz z2:ITMT=>ZxW it' z z2
  have hi1:∀x:ITMT,Nat.ble (it'++[y]++[x]).length most=true:=λx=>ZaY (by simp at hit|-;omega)
  have hj:∀f:ITMT->ITMT,ZcJ (it'++[y]) f=it'++[f y]:=ZaC it' y;unfold Zeo;simp only[RT.val,d,hin,w,hq,hT,hc.1,hc.2,hf.1,hf.2,hb.1,hb.2,hlc.1,hlc.2,htr,hi1,he1,he2,hc1,hc2,hg,w0,w1,w2,w3,w4,w5,List.nil_append,ZaN,Zad,Ye,Yt,Yf,Yk,Yw,Yl,Y9,YD,YL,YP,Ya,Yb];unfold ZbD;rw[hT'];simp only[ZbZ,Zhu,cycN,Zin,List.getLast?_concat,hj,Zrl,Zqd];cases T==8<;>cases T==9<;>cases T==10<;>rfl
theorem ZCn (c:CORT) (l:LINT) (d:Int):(Zs c l d).2.2.1.length<=c.2.2.1.length+1:=by
 have he:∀(c:TC) (s:Int) (g:List Int) (h:Bool) (l:LINT),(endX c s g h l).2.2.1.length<=g.length:=by
  intro c s g h l;unfold endX;cases (Zg c s g).2
  ·exact Yr _
  ·exact Yd _
 unfold Zs;dsimp only;cases l.2.2.1
 ·cases Zab c.2.2.2.2.1==1
  ·cases Zab c.2.2.2.2.1==2||Zab c.2.2.2.2.1==7
   ·cases Zab c.2.2.2.2.1==8
    ·cases Zab c.2.2.2.2.1==9
     ·cases Zab c.2.2.2.2.1==3
      ·cases decide (Zab c.2.2.2.2.1<c.2.2.2.1.2.2.2)&& !(Zab c.2.2.2.2.1==6)
       ·exact Yy (he _ _ _ _ _) (Yax _)
       ·exact Yax _
      ·cases le3 (Za4 (Zf c.1 l) c.2.2.2.1 d).2.2.2
       ·simp only[Ya,Yb,Yh,List.length_singleton];omega
       ·exact Yy (he _ _ _ _ _) (by simp)
     ·cases Zc5 (Zf c.1 l) l==0
      ·exact Yr _
      ·exact Yax _
    ·exact Yax _
   ·cases l.1|| !Zk c.2.2.2.1.1<;>exact Yax _
  ·exact Yax _
 ·exact Yr _
theorem ZiA (b:BRDT) (s:SYST) (i:INPT):(ZaX b s i).1.1=Zs s.1 (Zb2 b (ZB b s i) i) (busS b (ZB b s i) i).2:=by rw[(ZtZ b s i).1];show Zs (busS b (ZB b s i) i).1.1 _ _=_;rw[(ZhI b (ZB b s i) i).1];rfl
theorem ZBX (l:List α) (f:α->α):(ZcJ l f).length=l.length:=by
 rcases Y3 l with rfl|⟨l',y,rfl⟩
 ·rfl
 ·rw[YY,ZaC];simp
theorem ZGz (l:List ITMT) (k:Int) (c:CORT) (n:ITMT):(Zin l k c n).length<=l.length+1/\Zin l k c n≠[]:=by
 unfold Zin;rcases Y3 l with rfl|⟨l',y,rfl⟩
 ·exact⟨by simp,by simp⟩
 ·rw[YY,List.getLast?_concat];dsimp only;cases Zrl y k c
  ·exact⟨by simp,by simp⟩
  ·simp only[Ya];rw[ZaC];exact⟨by simp,by simp⟩
theorem ZGA (l:List ITMT) (c:CORT) (x:TY) (t:Int) (h:l=[]->t=1\/t=10):(ZbZ l c x t).length<=l.length+1/\ZbZ l c x t≠[]:=by
 have hj:=ZGz l (Zhu t) c (Zhu t,cycN c t x,0,1,Zas c,sodC c);have ho:∀f:ITMT->ITMT,l≠[]->(ZcJ l f).length<=l.length+1/\ZcJ l f≠[]:=λf hl=>by have:=ZBX l f;refine⟨by omega,λe=>hl ?_⟩;rw[e] at this;exact List.length_eq_zero_iff.1 this.symm
 unfold ZbZ;cases hk:Zhu t !=1
 ·cases h1:t==1
  ·have hl:l≠[]:=λe=>by
    rcases h e with rfl|rfl
    ·simp at h1
    ·simp[Zhu] at hk
   cases t==7
   ·exact ho _ hl
   ·exact ho _ hl
  ·exact⟨by simp,by simp⟩
 ·exact hj
theorem ZMq (s:SYST) (i:INPT) (h:ZU s.1=1):nowS s i=1\/nowS s i=10:=by
 unfold nowS;rw[h];cases i.2.2.1
 ·exact .inl rfl
 ·exact .inr rfl
theorem ZMT (ev:List EVTT) (c:CORT) (l:LINT) (d:Int) (cell:Cell) (moved:Bool):(evE ev c l d cell moved).length<=ev.length+2:=by
 unfold evE;dsimp only;cases l.2.2.1
 ·cases (finS c l d).2<;>cases moved<;>simp
 ·cases ZdF c<;>simp
theorem ZMU (cp:List TC) (ZW:TC) (c after:CORT) (l:LINT) (d:Int) (moved:Bool):(evC cp ZW c after l d moved).length<=cp.length+2:=by
 unfold evC;dsimp only;cases l.2.2.1
 ·cases (finS c l d).2<;>cases moved<;>simp
 ·cases ZdF c<;>simp
theorem ZH9 (b:BRDT) (ZW:TC) (st:STT) (i:INPT) (n:Nat) (h:RunOk b st n):RunOk b (ZbD b ZW st i) (n+1):=by
 have hc:=ZtZ b st.1 i;have hi:=ZGA st.2.2.1 st.1.1 (ZP st.1.1 (nowS st.1 i) (ZaX b st.1 i).2.2.2.1) (nowS st.1 i) (λe=>ZMq st.1 i (h.ne e));refine⟨h.g,?_,?_,?_,?_,?_,?_,?_,?_⟩
 ·have:=h.m;show (ZaX b st.1 i).1.2.1.length<=_;omega
 ·have:=h.o;show (ZaX b st.1 i).1.2.2.2.2.2.length<=_;omega
 ·have:=h.k;show (ZaX b st.1 i).1.1.2.2.1.length<=_;rw[ZiA];have:=ZCn st.1.1 (Zb2 b (ZB b st.1 i) i) (busS b (ZB b st.1 i) i).2;omega
 ·have:=h.t;show (st.2.1++[_]).length<=_;simp;omega
 ·have:=h.it;exact Yy hi.1 (by omega)
 ·have:=h.ev;exact Yy (ZMT _ _ _ _ _ _) (by omega)
 ·have:=h.cp;exact Yy (ZMU _ _ _ _ _ _ _) (by omega)
 ·intro e;exact absurd e hi.2
def Zbh (b:BRDT) (ZW:TC) (st:STT) (l:List INPT):STT:=l.foldl (ZbD b ZW) st
theorem Zw0 (b:BRDT) (ZW:TC):∀(l:List INPT) (st:STT) (n:Nat),RunOk b st n->RunOk b (Zbh b ZW st l) (n+l.length)
 |[],st,n,h=>h
 |i::l,st,n,h=>by have:=Zw0 b ZW l (ZbD b ZW st i) (n+1) (ZH9 b ZW st i n h);rw[show n+(i::l).length=n+1+l.length by simp;omega];exact this
theorem ZDA (l:List α) (d:α) (i:Nat) (h:i<l.length):l.take (i+1)=l.take i++[l.getD i d]:=by rw[List.take_add_one,Yo,Yn h];rfl
theorem ZH4 (b:BRDT) (l:List INPT) (r0:RUNT) (s0:SYST) (ZW:TC) (st:STT) (h:RunOk b st 0) (hl:l.length<=70000):
  runF false Zeo (λ_=>1000000000000) (l,(l.length:Int),0,b,r0,st.1,s0,ZW,st.2.1,st.2.2.1,st.2.2.2.1,st.2.2.2.2,())=
   some (false,(l,(l.length:Int),(l.length:Int),b,r0,(Zbh b ZW st l).1,s0,ZW,(Zbh b ZW st l).2.1,(Zbh b ZW st l).2.2.1,(Zbh b ZW st l).2.2.2.1,(Zbh b ZW st l).2.2.2.2,())):=by
 obtain⟨r,hr,h1⟩:=Zat (fl:=false) (t:=Zeo) (fuel:=λ_=>1000000000000)
  (λa=>∃i:Nat,i<=l.length/\a=(l,(l.length:Int),(i:Int),b,r0,(Zbh b ZW st (l.take i)).1,s0,ZW,(Zbh b ZW st (l.take i)).2.1,(Zbh b ZW st (l.take i)).2.2.1,(Zbh b ZW st (l.take i)).2.2.2.1,(Zbh b ZW st (l.take i)).2.2.2.2,()))
  (λa=>Int.toNat (a.2.1-a.2.2.1)) (λr=>r=(false,(l,(l.length:Int),(l.length:Int),b,r0,(Zbh b ZW st l).1,s0,ZW,(Zbh b ZW st l).2.1,(Zbh b ZW st l).2.2.1,(Zbh b ZW st l).2.2.2.1,(Zbh b ZW st l).2.2.2.2,())))
  (by
   rintro a ⟨i,hi,rfl⟩;by_cases hlt:i<l.length
   ·left;have hk:=Zw0 b ZW (l.take i) st 0 h;have hv:=ZDY b l i r0 s0 ZW (Zbh b ZW st (l.take i)) _ hk hlt (by omega) (by simp;omega);refine⟨_,hv,⟨i+1,hlt,?_⟩,by simp only;omega⟩;have e:Zbh b ZW st (l.take (i+1))=ZbD b ZW (Zbh b ZW st (l.take i)) (R.get ZcP l (i:Int)):=by rw[ZDA l ZcP.Df i hlt];simp only[Zbh,List.foldl_append,List.foldl_cons,List.foldl_nil];rfl
    rw[e]
   ·right;left;have e:i=l.length:=by omega
    subst e;have d:decide ((l.length:Int)<(l.length:Int))=false:=Y2 (by omega);rw[List.take_length]
    exact⟨_,by simp only[Zeo,RT.val,d,Yb],rfl⟩)
  (l,(l.length:Int),0,b,r0,st.1,s0,ZW,st.2.1,st.2.2.1,st.2.2.2.1,st.2.2.2.2,()) ⟨0,Yr _,rfl⟩ (by simp only;omega)
 rw[h1] at hr;exact hr
def ZbG (b:BRDT):STT:=((wNew b).1,[],[],[],[])
def Zah (b:BRDT):TC:=(wNew b).1.1.1
def Zt7:SYST:=((ZAb,0,[],(0,0,0,0),0,false),[],(0,false,false,false,false,0,0,false,false,false,false,false,0,0,0,0,0,0,0,false),(0,0,0),0,[])
theorem ZqQ (b:BRDT) (hg:smG b.2.1=true) (hm:smC b.2.2.2.2.2.2=true):ZnP b=true:=by
 unfold ZnP ZnN;simp only[RT.val,hg,hm,Ye,Ya];cases b.1 !=1&&b.1 !=2
 ·cases Zeq b.2.1 !=0
  ·cases decide (b.2.2.1<0)||(decide (b.2.2.1>100)|| !vldB b.2.2.2.2.2.2)<;>rfl
  ·rfl
 ·rfl
def newS (b:BRDT):SYST:=((((newX b.1).1.1,(0,0,0,0,0,0,0,(false,false,false,false,false,false,false),0,0),false,false,false,(newX b.1).1.2.2.2.2.2.1,false,false,false,false,false,false,false),0,[],(1,0,0,4),1,false),
 normX b.2.2.2.2.2.2,(0,false,false,false,false,0,0,false,false,false,false,false,0,0,0,0,7,0,0,false),(0,0,0),0,[])
theorem ZK8 (b:BRDT) (hg:smG b.2.1=true) (hm:b.2.2.2.2.2.2.length<=100000):ZHz b=true/\(wNew b).2=Zdk b/\((wNew b).2=0->RunOk b (ZbG b) 0/\(wNew b).1.2.1=normX b.2.2.2.2.2.2):=by
 have hc:=smCb (l:=b.2.2.2.2.2.2) (by omega);have hv:(Zuc b).val=some (bif Zdk b !=0 then (Zt7,Zdk b) else ((newS b),0)):=by unfold Zuc;simp only[RT.val,ZqQ b hg hc,hc,Ya];cases Zdk b !=0<;>rfl
 refine⟨by simp only[ZHz,hv];rfl,?_,?_⟩
 ·simp only[wNew,hv,getO];cases hx:Zdk b !=0
  ·simp at hx;exact hx.symm
  ·rfl
 ·intro h0;have hx:(Zdk b !=0)=false:=by
   cases hx:Zdk b !=0
   ·rfl
   ·simp only[wNew,hv,getO,hx,Ya] at h0;rw[h0] at hx;simp at hx
  have e:wNew b=((newS b),0):=by simp only[wNew,hv,getO,hx,Yb]
  have hn:=Zdu b.2.2.2.2.2.2;unfold ZbG;rw[e];exact⟨⟨hg,by show (normX b.2.2.2.2.2.2).length<=_;omega,Yd _,Yd _,Yd _,Yd _,Yd _,Yd _,λ_=>rfl⟩,rfl⟩
def endS (ZW:TC) (st:STT):RUNT:=
 (st.2.1,st.2.2.1,bif ZdF st.1.1 then st.2.2.2.1++[(7,st.1.1.2.1,st.1.1.2.2.1,Zgc,false,false,false,false,0,0)] else st.2.2.2.1,bif ZdF st.1.1 then st.2.2.2.2++[ZlQ ZW st.2.2.2.2] else st.2.2.2.2,st.1)
def ZgP (b:BRDT) (l:List INPT):RUNT×Int:=bif (wNew b).2 !=0 then (([],[],[],[],Zt7),(wNew b).2) else (endS (Zah b) (Zbh b (Zah b) (ZbG b) l),0)
theorem ZCC (b:BRDT) (l:List Int) (hg:smG b.2.1=true) (hm:b.2.2.2.2.2.2.length<=100000) (hl:l.length<=4000):ZCH b l=true/\wRun b l=ZgP b (ZaK l):=by
 have hms:=mst;have hd:=ZhO l hl;have hn:=ZK8 b hg hm;have hv:(ZCD b l).val=some (ZgP b (ZaK l)):=by
  unfold ZCD ZgP;cases hx:(wNew b).2 !=0
  ·have h0:(wNew b).2=0:=by simpa using hx
   have hi:=(hn.2.2 h0).1;have hf:=Zw0 b (Zah b) (ZaK l) (ZbG b) 0 hi;have hr:=ZH4 b (ZaK l) ([],[],[],[],Zt7) Zt7 (Zah b) (ZbG b) hi (by omega);have hr':runF false Zeo (λ_=>1000000000000) (ZaK l,iN (ZaK l).length,0,b,([],[],[],[],((0,(0,0,0,0,0,0,0,(false,false,false,false,false,false,false),0,0),false,false,false,0,false,false,false,false,false,false,false),0,[],(0,0,0,0),0,false),[],(0,false,false,false,false,0,0,false,false,false,false,false,0,0,0,0,0,0,0,false),(0,0,0),0,[]),(wNew b).1,(((0,(0,0,0,0,0,0,0,(false,false,false,false,false,false,false),0,0),false,false,false,0,false,false,false,false,false,false,false),0,[],(0,0,0,0),0,false),[],(0,false,false,false,false,0,0,false,false,false,false,false,0,0,0,0,0,0,0,false),(0,0,0),0,[]),(wNew b).1.1.1,[],[],[],[],())=some (false,(ZaK l,((ZaK l).length:Int),((ZaK l).length:Int),b,([],[],[],[],Zt7),(Zbh b (Zah b) (ZbG b) (ZaK l)).1,Zt7,Zah b,(Zbh b (Zah b) (ZbG b) (ZaK l)).2.1,(Zbh b (Zah b) (ZbG b) (ZaK l)).2.2.1,(Zbh b (Zah b) (ZbG b) (ZaK l)).2.2.2.1,(Zbh b (Zah b) (ZbG b) (ZaK l)).2.2.2.2,())):=hr;simp only[RT.val,hn.1,hd.1,hr',hx,okB,getO,Ya,Yb];obtain⟨st,hst⟩:∃st,Zbh b (Zah b) (ZbG b) (ZaK l)=st:=⟨_,rfl⟩;rw[hst] at hf|-;have hk:=hf.k;have he:=hf.ev;have hc:=hf.cp;have hdl:=hd.2;have hlc:=ZzK (Zah b) st.2.2.2.2 (by omega);have b1:Nat.ble (List.length st.1.1.2.2.1) most=true:=ZaY (by omega);have b2:∀x:EVTT,Nat.ble (List.length (st.2.2.2.1++[x])) most=true:=λx=>ZaY (by simp;omega)
   have b3:∀x:TC,Nat.ble (List.length (st.2.2.2.2++[x])) most=true:=λx=>ZaY (by simp;omega)
   simp only[hlc.1,hlc.2,b1,b2,b3,List.nil_append,Ye,Yf,Yk,Ya];unfold endS;cases ZdF st.1.1<;>rfl
  ·simp only[RT.val,hn.1,hx,Ya];rfl
 exact⟨by simp only[ZCH,hv];rfl,by simp only[wRun,hv,getO]⟩
end
end Go.Proofs.YtpnjbfjomebppaaGreat
open Go Go.S3 Go.Proofs
namespace Go.Proofs.YtpnjbfjomebppaaGreat
noncomputable section
def ZtV (k:Int):Bool:=k==1||(k==2||k==3)
def Zzc (c:TC) (e:EVTT):TC:=(c.1,c.2.1,c.2.2.1,c.2.2.2.1,c.2.2.2.2.1,c.2.2.2.2.2.1,e.2.2.2.2.2.1,e.2.2.2.2.1,e.2.2.2.2.2.2.2.1,e.2.2.2.2.2.2.1,c.2.2.2.2.2.2.2.2.2.2)
def Zc1 (c:TC) (e:EVTT):TC:=bif ZtV e.1 then finX (Zzc (Zx c e.2.1) e) e.2.1 e.2.2.1 e.2.2.2.1 else bif e.1==4 then ZT c else c
def Zzb (c:TC) (x:TY) (b:Int):TY:=(x.1,x.2.1,bif Zba x.1 then b else x.2.2.1,bif x.1==1||x.1==8 then Zg8 c.1 b else x.2.2.2)
def cyX (c:TC) (s:Int) (g:List Int):List Int->List TY
 |[]=>[]
 |b::r=>bif (Zg c s g).2 then Zzb c (Zg c s g).1 b::cyX c s (g++[b]) r else []
def cycE (k:Int):Bool:=ZtV k||(k==6||k==7)
def Zfn (c:TC) (e:EVTT):List TY:=bif cycE e.1 then cyX (Zx c e.2.1) e.2.1 [] e.2.2.1 else []
def Zrt (c:TC):List EVTT->List TC
 |[]=>[]
 |e::l=>Zc1 c e::Zrt (Zc1 c e) l
def Za5 (c:TC) (l:List EVTT):TC:=l.foldl Zc1 c
end
end Go.Proofs.YtpnjbfjomebppaaGreat
open Go.Proofs.Tryz (prog)
namespace Go.Proofs.YtpnjbfjomebppaaGreat
noncomputable section
abbrev Zaz:R:=R.int u8
abbrev ZaA:Nat:=5
abbrev ZhN:List Sh:=[Sh.one (R.sl ZcP)]
def Zuh:LS:={n:=64,Sl:=[(3,.tip 0),(7,.code (Sh.one (R.sl ZcP))),(8,.code (Sh.one (R.int i64))),(9,.code (Sh.one (R.int i64)))],Bx:=[],Sg:=[⟨(R.int u8),5,false⟩]}
def Zgf (a:List INPT×Int×Int×List Int×PUnit):RT (Option (Go1 (List INPT×Int×Int×List Int×PUnit))):=
 let x1:INPT:=R.get ZcP a.1 a.2.2.1
 let x2:= !x1.1
 let x3:=Zep x2 0
 let x4:= !x3
 let x5:=x1.2
 let x6:=x5.1
 let x7:=Zep x6 1
 let x8:= !x7
 let x9:=x5.2
 let x10:=x9.1
 let x11:=Zep x10 2
 let x12:= !x11
 let x13:=x9.2
 let x14:=x13.1
 let x15:=Zep x14 3
 let x16:= !x15
 let p1:=x16::x12::x8::x4::[]
 let x17:=x13.2
 let x18:=x17.1
 let x19:=Zep x18 4
 let x20:= !x19
 let p4:=x20::p1
 let x21:=x17.2
 let x22:=x21.1
 let x23:=Zep x22 5
 let x24:= !x23
 let p6:=x24::p4
 let x25:=x21.2
 let x26:=x25.1
 let x27:=Zep x26 6
 let p7:=(!x27)::p6
 let x28:=x25.2
 let x29:=x28.1
 let x30:=orR p7 (Zep x29 7)
 let x31:= !x30
 let x32:=orR p6 x27
 let x33:= !x32
 let p2:=x33::x31::(decide (a.2.2.1>=65536))::(!Ze a.2.2.1 (List.length a.1))::[]
 let x34:=orR p4 x23
 let x35:= !x34
 let p3:=x35::p2
 let x36:=orR p1 x19
 let x37:= !x36
 let p5:=x37::p3
 let x38:=x4||(x8||(x12||x15))
 let x39:= !x38
 let p8:=x39::p5
 let x40:=x4||(x8||x11)
 let x41:= !x40
 let p9:=x41::p8
 let x42:=x4||x7
 let x43:= !x42
 let p10:=x43::p9
 let p11:=x4::p10
 let x44:=orI u8 (orI u8 (orI u8 (orI u8 (orI u8 (orI u8 (orI u8 (wBit x2 0) (wBit x6 1)) (wBit x10 2)) (wBit x14 3)) (wBit x18 4)) (wBit x22 5)) (wBit x26 6)) (wBit x29 7)
 let x45:=x28.2
 let x46:=x45.1
 let x47:=x45.2
 let x48:List Int:=a.2.2.2.1++[x44,x46,x47,Zq0 x44 x46 x47]
 .br (decide (a.2.2.1<a.2.1)) (.br (orR p11 (Nat.ble (List.length x48) most)) (.br (orR p10 x3) (.br (orR p9 x42) (.br (orR p8 x40) (.br (orR p5 x38) (.br (orR p3 x36) (.br (orR p2 x34) (.br (!Ze a.2.2.1 (List.length a.1)||(decide (a.2.2.1>=65536)||(x31||x32))) (.br (!Ze a.2.2.1 (List.length a.1)||(decide (a.2.2.1>=65536)||x30)) (.br (Ze a.2.2.1 (List.length a.1)) (.br (decide (a.2.2.1>=65536)) (.Lf (some (Go1.brk (a.1,a.2.1,a.2.2.1,a.2.2.2.1,PUnit.unit)))) (.Lf (some (Go1.cont (a.1,a.2.1,i64.wrap (a.2.2.1+1),x48,PUnit.unit))))) (.Lf none)) (.Lf none)) (.Lf none)) (.Lf none)) (.Lf none)) (.Lf none)) (.Lf none)) (.Lf none)) (.Lf none)) (.Lf none)) (.Lf (some (Go1.brk (a.1,a.2.1,a.2.2.1,a.2.2.2.1,PUnit.unit))))
def ZjB:Ora:=ZcQ false Zuh Zgf (λa=>1000000000000)
theorem ZnU:Zb6 (envX prog [(116,ZLd),(117,ZjF)] [] 127 8) (.block 0 (.loop (ZaU Tryz.f56.body 0))) ZjB:=
 loopP ⟨ZC0,ZgI,Tv⟩
def ZeQ (l:List INPT):RT (Option (List Int)):=
 let x1:=runF false Zgf (λa=>1000000000000) (l,iN (List.length l),0,[],())
 .br (okB x1) (.Lf (some (getO (false,l,iN (List.length l),0,[],()) x1).2.2.2.2.1)) (.Lf none)
def Za7 (l:List INPT):List Int:=getO [] (ZeQ l).val
def ZeR (l:List INPT):Bool:=okB (ZeQ l).val
def ZqV:En:=frzE (newE Zaz ZaA ZhN (λa=>some (ZeR a)) (λa=>Za7 a))
theorem ZqW:Zd prog 56 (newE Zaz ZaA ZhN (λa=>some (ZeR a)) (λa=>Za7 a)):=
 Zhj (P:=prog) (n:=127) (k:=8) (l:=[(116,ZLd),(117,ZjF)]) (ol:=[(0,ZjB)]) ⟨ZC0,ZgI,Tv⟩ Tryz.func56 rfl (by kernel_rfl) Tryz.call56 ⟨ZnU,Tv⟩ (r:=Zaz) (T:=ZaA) (ts:=ZhN) (t:=λa=>ZeQ a) (λa=>by kernel_rfl)
theorem Zug:Zd prog 56 ZqV:=ZnB ZqW
abbrev Zll:R:=R.Pq (R.sl (R.int i64)) (R.int i64)
abbrev Zs2:List Sh:=[Sh.one (R.int i64)]
abbrev Zlk:Rs:=Rs.one (Sh.one (R.sl (R.int u8)))
def ZfK (s:List Int×Int) (n:Int):RT (Option (List Int×List Int×Int)):=
 let x1:=decide (iN (List.length (Stg.l (newG Zaz ZaA (Za7 (Z2 s n).1))))>0)
 let x2:=x1&&(Zb (Z2 s n).2 4).1==0
 let x3:= !x2
 let x4:List Int:=bif x1 then (Zb (Z2 s n).2 4).2.1 else (Z2 s n).2.1
 let x5:Int:=bif x1 then (Zb (Z2 s n).2 4).2.2 else (Z2 s n).2.2
 let x6:List Int×Int:=(x4,x5)
 let x7:=Zj x6 (iN (List.length (Stg.l (newG Zaz ZaA (Za7 (Z2 s n).1)))))
 let x8:= !x7
 let x9:=Zb x6 (iN (List.length (Stg.l (newG Zaz ZaA (Za7 (Z2 s n).1)))))
 let x10:=x9.1
 let x11:=Ze x10 (List.length (Stg.l (newG Zaz ZaA (Za7 (Z2 s n).1))))
 let x12:= !x11
 let x13:=x9.2
 let x14:=Zj x13 8
 let x15:= !x14
 let p1:=x15::x12::x8::x3::[]
 let x16:=Zb x13 8
 let x17:=x16.1
 let x18:=decide (0<=x17)
 let p2:=(!x18)::p1
 let x19:=x16.2
 .br (!Zho s n||ZeR (Z2 s n).1) (.br (Zho s n) (.br (!x1||Zj (Z2 s n).2 4) (.br (orR p2 x11) (.br (orR p1 x18) (.br (x3||(x8||(x12||x14))) (.br (x3||(x8||x11)) (.br (x3||x7) (.Lf (some ((bif x2 then setI (Stg.l (newG Zaz ZaA (Za7 (Z2 s n).1))) x10 (xorI u8 (R.get (Stg.r (newG Zaz ZaA (Za7 (Z2 s n).1))) (Stg.l (newG Zaz ZaA (Za7 (Z2 s n).1))) x10) (shlI u8 1 x17)) else Stg.l (newG Zaz ZaA (Za7 (Z2 s n).1)),bif x2 then x19.1 else x4,bif x2 then x19.2 else x5)))) (.Lf none)) (.Lf none)) (.Lf none)) (.Lf none)) (.Lf none)) (.Lf none)) (.Lf none)) (.Lf none)
def Za8 (s:List Int×Int) (n:Int):List Int×List Int×Int:=getO (Zlk.Df,Zll.Df) (ZfK s n).val
def Zc7 (s:List Int×Int) (n:Int):Bool:=okB (ZfK s n).val
def Zzq:En:=boxE Zll Zs2 Zlk (λa=>some (Zc7 a.1 a.2)) (λa=>Za8 a.1 a.2)
theorem ZB1:Zd prog 67 Zzq:=
 ZbU (P:=prog) (n:=63) (k:=8) (l:=[(56,ZqV),(68,ZbL),(125,Zzr)]) (ol:=[]) ⟨Zug,Zau,ZB3,Tv⟩ Tryz.func67 rfl (by kernel_rfl) Tryz.call67 trivial (rb:=Zll) (ts:=Zs2) (rs:=Zlk) (t:=λa=>ZfK a.1 a.2) (λa=>by kernel_rfl)
theorem ZG5:Zgf=Zdc:=by funext a;rfl
theorem ZHE (l:List INPT) (hl:l.length<=1000):ZeR l=true/\Za7 l=ZjC l/\(Za7 l).length=4*l.length:=by
 have h:=ZAf l hl;have e:ZeQ l=Zfs l:=by unfold ZeQ Zfs;rw[ZG5]
 have e2:Za7 l=ZjC l:=by unfold Za7 ZjC;rw[e];rfl
 refine⟨by unfold ZeR;rw[e];exact h.1,e2,by rw[e2];exact h.2⟩
variable {k:Int}
theorem Znp {s:List Int×Int} (h:NB s k) (hk:k<=50000) (n:Nat) (hn:n<=250):
  Zc7 s (n:Int)=true/\NB (Za8 s (n:Int)).2 (k+10+30*n)/\(Za8 s (n:Int)).1.length<=4*n/\∃m:Nat,(Za8 s (n:Int)).1.length=4*m:=by
 have hms:=mst;obtain⟨c1,b1,l1⟩:=ZB4 h (by omega) n hn;obtain⟨c2,e2,l2⟩:=ZHE (Z2 s (n:Int)).1 (by omega);have hg:∀l:List Int,Stg.l (newG Zaz ZaA l)=l:=λ_=>rfl
 have hr:∀l:List Int,Stg.r (newG Zaz ZaA l)=R.int .u8:=λ_=>rfl
 obtain⟨L,hL⟩:∃L,L=Za7 (Z2 s (n:Int)).1:=⟨_,rfl⟩;rw[<-hL] at l2;obtain⟨c3,b3,_⟩:=Zn b1 (by omega) 4 (by decide) (by decide);have b4:NB (bif decide (iN L.length>0) then (Zb (Z2 s (n:Int)).2 4).2.1 else (Z2 s (n:Int)).2.1,bif decide (iN L.length>0) then (Zb (Z2 s (n:Int)).2 4).2.2 else (Z2 s (n:Int)).2.2) (k+3+30*n):=by
  cases decide (iN L.length>0)
  ·exact b1.up (by omega)
  ·exact b3.up (by omega)
 obtain⟨s4,hs4⟩:∃s4:List Int×Int,s4=(bif decide (iN L.length>0) then (Zb (Z2 s (n:Int)).2 4).2.1 else (Z2 s (n:Int)).2.1,bif decide (iN L.length>0) then (Zb (Z2 s (n:Int)).2 4).2.2 else (Z2 s (n:Int)).2.2):=⟨_,rfl⟩;rw[<-hs4] at b4;have hv:∃l s',(ZfK s (n:Int)).val=some (l,s')/\NB s' (k+10+30*n)/\l.length=L.length:=by
  by_cases hz:0<L.length
  ·have d:decide (iN L.length>0)=true:=YA (by simp only[iN];omega);obtain⟨c5,b5,d0,d1⟩:=Zn b4 (by omega) (iN L.length) (by simp only[iN];omega) (by simp only[iN];omega);obtain⟨c6,b6,f0,f1⟩:=Zn b5 (by omega) 8 (by decide) (by decide);have r5:Ze (Zb s4 (iN L.length)).1 L.length=true:=Zw.2 ⟨d0,by simpa [iN] using d1⟩;have e6:decide (0<=(Zb (Zb s4 (iN L.length)).2 8).1)=true:=YA f0;rw[d] at hs4;simp only[Ya] at hs4;unfold ZfK;simp only[RT.val,hg,hr,<-hL,c1,c2,d,c3,<-hs4,c5,r5,c6,e6,ZaN,Zad,YL,Yf,Ye,Yk,Ya];cases (Zb (Z2 s (n:Int)).2 4).1==0
   ·exact⟨_,_,rfl,b3.up (by omega),rfl⟩
   ·exact⟨_,_,rfl,b6.up (by omega),by simp only[Ya,setI,Yam]⟩
  ·have d:decide (iN L.length>0)=false:=Y2 (by simp only[iN];omega);rw[d] at hs4;simp only[Yb] at hs4;unfold ZfK;simp only[RT.val,hg,hr,<-hL,c1,c2,d,ZaN,Zad,YD,Yf,Yl,Yt,Ye,Yk,Ya,Yb];exact⟨_,_,rfl,b1.up (by omega),rfl⟩
 obtain⟨l,s',hv,h1,h2⟩:=hv;simp only[Zc7,Za8,hv,okB,getO];exact⟨trivial,h1,by omega,(Z2 s (n:Int)).1.length,by omega⟩
def ZMA (b:BRDT):RT TC:=
 let x1:TR:=(0,0,0,0,0,0,0,(false,false,false,false,false,false,false),0,0)
 let x2:=ZT (b.1,x1,false,false,false,0,false,false,false,false,false,false,false)
 .Lf ((x2.1,x1,false,false,false,x2.2.2.2.2.2.1,false,false,false,false,false,false,false))
def ZGt (b:BRDT):TC:=(ZMA b).val
abbrev ZMB:Rs:=Rs.tup [Sh.agg (R.Pq (R.int i64) (R.Pq rcRG (R.Pq (R.int i64) (R.Pq (R.int u8) (R.Pq (R.int u8) (R.Pq R.bool rcCE)))))),Sh.agg (R.Pq (R.sl ZeZ) (R.Pq (R.sl Z0) (R.Pq (R.sl ZAw) (R.Pq (R.sl ZX) (R.Pq (R.Pq ZX (R.Pq (R.int i64) (R.Pq (R.sl (R.int u8)) (R.Pq (RY) (R.Pq (R.int i64) R.bool))))) (R.Pq rcCE (R.Pq ZaQ (R.Pq (R.Pq (R.int u16) (R.Pq (R.int u8) (R.int i64))) (R.Pq (R.int i64) (R.sl (R.Pq (R.int u8) (R.int u8))))))))))))]
def ZzO (n:List Int) (h:Bool):RT (Option (BRDT×RUNT)):=
 let x1:BRDT:=((ZF (n,0)).1.1,(ZF (n,0)).1.2.1,(ZF (n,0)).1.2.2.1,(ZF (n,0)).1.2.2.2.1,bif !h then 240 else (ZF (n,0)).1.2.2.2.2.1,(ZF (n,0)).1.2.2.2.2.2)
 .br (Zii (n,0)) (.br (!Zc7 (ZF (n,0)).2 90||ZCH x1 (Za8 (ZF (n,0)).2 90).1) (.br (Zc7 (ZF (n,0)).2 90) (.Lf (some ((x1,(wRun x1 (Za8 (ZF (n,0)).2 90).1).1)))) (.Lf none)) (.Lf none)) (.Lf none)
def ZN6 (n:List Int) (h:Bool):BRDT×RUNT:=getO ZMB.Df (ZzO n h).val
def ZKP (n:List Int) (h:Bool):Bool:=okB (ZzO n h).val
theorem ZbS (e:EVTT) (c:TC) (l:LINT):ZeO e c l=(e.1,e.2.1,e.2.2.1,l,c.2.2.2.2.2.2.2.1,c.2.2.2.2.2.2.1,c.2.2.2.2.2.2.2.2.2.1,c.2.2.2.2.2.2.2.2.1,e.2.2.2.2.2.2.2.2):=rfl
def EvB (ev:List EVTT) (n:Nat):Prop:=∀e∈ev,e.2.2.1.length<=n
variable {ev:List EVTT} {n:Nat}
theorem EvB.app (h:EvB ev n) {e:EVTT} (he:e.2.2.1.length<=n):EvB (ev++[e]) n:=λx hx=>by
 rcases Y8.1 hx with hx|hx
 ·exact h x hx
 ·rw[Y5] at hx;subst hx;exact he
theorem EvB.mono {m:Nat} (h:EvB ev n) (hn:n<=m):EvB ev m:=λe he=>Yy (h e he) hn
def brdK (n:List Int) (h:Bool):BRDT:=((ZF (n,0)).1.1,(ZF (n,0)).1.2.1,(ZF (n,0)).1.2.2.1,(ZF (n,0)).1.2.2.2.1,(bif !h then 240 else (ZF (n,0)).1.2.2.2.2.1),(ZF (n,0)).1.2.2.2.2.2)
def scrK (n:List Int):List INPT:=ZaK (Za8 (ZF (n,0)).2 90).1
theorem ZLv (n:List Int) (h:Bool):ZKP n h=true/\ZN6 n h=(brdK n h,(ZgP (brdK n h) (scrK n)).1)/\smG (brdK n h).2.1=true/\(brdK n h).2.2.2.2.2.2.length<=200/\(scrK n).length<=90/\((brdK n h).1=1\/(brdK n h).1=2):=by
 obtain⟨c1,b1,⟨s1,bs1,hr⟩,hch,_,l,hl,hi⟩:=Zs9 (ZGV n) (by omega);obtain⟨c2,_,l2⟩:=ZFZ bs1 (by omega);obtain⟨c3,b3,l3,_⟩:=Znp b1 (by omega) 90 (by omega);have hg:smG (brdK n h).2.1=true:=by show smG (ZF (n,0)).1.2.1=true;rw[hr];exact smGb (by omega)
 have hm:(brdK n h).2.2.2.2.2.2.length<=200:=by show (ZF (n,0)).1.2.2.2.2.2.2.length<=200;rw[hi];exact Yy (Zdu l) hl
 have hd:=(ZhO (Za8 (ZF (n,0)).2 90).1 (by have:(Za8 (ZF (n,0)).2 90).1.length<=4*90:=l3;omega)).2;have hsl:(scrK n).length<=90:=by unfold scrK;rw[hd];have:(Za8 (ZF (n,0)).2 90).1.length<=4*90:=l3;omega
 obtain⟨w1,w2⟩:=ZCC (brdK n h) (Za8 (ZF (n,0)).2 90).1 hg (by omega) (by have:(Za8 (ZF (n,0)).2 90).1.length<=4*90:=l3;omega);have c3':Zc7 (ZF (n,0)).2 90=true:=c3;have hv:(ZzO n h).val=some (brdK n h,(ZgP (brdK n h) (scrK n)).1):=by have e:((ZF (n,0)).1.1,(ZF (n,0)).1.2.1,(ZF (n,0)).1.2.2.1,(ZF (n,0)).1.2.2.2.1,(bif !h then 240 else (ZF (n,0)).1.2.2.2.2.1),(ZF (n,0)).1.2.2.2.2.2)=brdK n h:=rfl;simp only[ZzO,RT.val,c1,c3',e,w1,w2,Ye,Ya];rfl
 exact⟨by simp only[ZKP,hv];rfl,by simp only[ZN6,hv,getO],hg,hm,hsl,hch⟩
def cyA:TC->List EVTT->List TY
 |_,[]=>[]
 |c,e::l=>Zfn c e++cyA (Zc1 c e) l
theorem Zff (c:TC) (l:List EVTT) (e:EVTT):Za5 c (l++[e])=Zc1 (Za5 c l) e:=by unfold Za5;rw[List.foldl_append];rfl
theorem Zmd:∀(l:List EVTT) (c:TC) (e:EVTT),cyA c (l++[e])=cyA c l++Zfn (Za5 c l) e
 |[],c,e=>by simp[cyA,Za5]
 |x::l,c,e=>by have:=Zmd l (Zc1 c x) e;simp only[List.cons_append,cyA,this,YI];rfl
theorem Zd6:∀(l:List EVTT) (c:TC) (e:EVTT),Zrt c (l++[e])=Zrt c l++[Zc1 (Za5 c l) e]
 |[],c,e=>rfl
 |x::l,c,e=>by have:=Zd6 l (Zc1 c x) e;simp only[List.cons_append,Zrt,this];rfl
theorem Znu (c:TC) (l:List EVTT):ZlQ c (Zrt c l)=Za5 c l:=by
 rcases Y3 l with rfl|⟨l',e,rfl⟩
 ·rfl
 ·rw[YY,Zd6,Zff];simp[ZlQ]
def cyI (l:List ITMT):List TY:=(l.filter λy=>y.1==1&&decide (y.2.2.2.1>=3)).map λy=>y.2.1
theorem ZdX (l:List ITMT) (y:ITMT):cyI (l++[y])=cyI l++(bif y.1==1&&decide (y.2.2.2.1>=3) then [y.2.1] else []):=by unfold cyI;rw[List.filter_append,List.map_append];cases h:y.1==1&&decide (y.2.2.2.1>=3)<;>simp[List.filter,h]
def unl (c:TC):Int×(Int×Int×Int×Int×Int×Int×Int×(Bool×Bool×Bool×Bool×Bool×Bool×Bool)×Int×Int)×Bool×Bool×Bool×Int×Bool×Bool×Bool:=(c.1,c.2.1,c.2.2.1,c.2.2.2.1,c.2.2.2.2.1,c.2.2.2.2.2.1,c.2.2.2.2.2.2.2.2.2.2)
theorem Zre (c:TC) (l:LINT):unl (Zf c l)=unl c:=by unfold Zf ZvV;simp only[RT.val];cases !rOn c.1<;>rfl
theorem ZJA (c:TC):Zx c 0=c:=rfl
variable {a b:TC}
theorem ZLr (h:unl a=unl b) (s:Int):unl (Zx a s)=unl (Zx b s):=by
 unfold Zx Zjl;simp only[RT.val];cases decide (s<1)||decide (s>5)
 ·simp only[unl,pinj] at h|-;obtain⟨h1,h2,h3,h4,h5,h6,h7⟩:=h;simp only[h1,h2,h3,h4,h5,h6,h7,and_self];simp only[Yb,unl,h1,h2,h3,h4,h5,h6,h7,and_self]
 ·exact h
theorem ZD0 (h1:a.1=b.1) (h2:a.2.1=b.2.1):ZT a=ZT b:=by unfold ZT Zkc;simp only[RT.val,h1,h2]
theorem ZqJ (c:TC) (s:Int):(Zx c s).1=c.1/\(Zx c s).2.1=c.2.1:=by unfold Zx Zjl;simp only[RT.val];cases decide (s<1)||decide (s>5)<;>exact⟨rfl,rfl⟩
theorem Zoa (h:unl a=unl b):a.1=b.1/\a.2.1=b.2.1:=by simp only[unl,pinj] at h;exact⟨h.1,h.2.1⟩
theorem ZJy (h1:a.1=b.1) (h2:a.2.1=b.2.1) (inj:Bool) (g:List Int) (i:InsT):Zfp a inj g i=Zfp b inj g i:=by unfold Zfp ZbE Za0 opC Zb5 popX ZO Zdj Zfg Zem pcOf spOf;simp only[h1,h2]
theorem Zzo (h:unl a=unl b) (s:Int) (g:List Int):Zg a s g=Zg b s g:=by
 obtain⟨h1,h2⟩:=Zoa h;have hp:ZdV a s g=ZdV b s g:=by
  unfold ZdV pcOf Zb5 spOf;simp only[h1,h2];cases Za s
  ·cases g with
   |nil=>rfl
   |cons o g=>simp only[Yb,ZJy h1 h2]
  ·rfl
 unfold Zg;rw[hp]
theorem Zjp (c:TC) (s:Int):(Zg c s []).2=true:=by unfold Zg ZdV pick;cases Za s<;>rfl
variable {p q:TC}
theorem ZwO (h:unl p=unl q) (e:EVTT) (he:e.2.2.2.2.1=q.2.2.2.2.2.2.2.1/\e.2.2.2.2.2.1=q.2.2.2.2.2.2.1/\e.2.2.2.2.2.2.1=q.2.2.2.2.2.2.2.2.2.1/\e.2.2.2.2.2.2.2.1=q.2.2.2.2.2.2.2.2.1):Zzc p e=q:=by obtain⟨e1,e2,e3,e4⟩:=he;simp only[unl,pinj] at h;obtain⟨h1,h2,h3,h4,h5,h6,h7⟩:=h;unfold Zzc;rw[e1,e2,e3,e4,h1,h2,h3,h4,h5,h6,h7]
theorem ZHh (c:TC) (s:Int):∀(r g:List Int) (b:Int),(cyX c s g r).length=r.length->(Zg c s (g++r)).2=true->cyX c s g (r++[b])=cyX c s g r++[Zzb c (Zg c s (g++r)).1 b]/\(cyX c s g (r++[b])).length=(r++[b]).length
 |[],g,b,_,h=>by rw[YS] at h|-;simp only[List.nil_append,cyX,h,Ya,List.length_cons,List.length_nil,and_self]
 |x::r,g,b,hl,h=>by
  simp only[List.cons_append,cyX] at hl|-;cases hn:(Zg c s g).2
  ·rw[hn] at hl;simp at hl
  ·rw[hn] at hl;simp only[Ya,List.length_cons] at hl|-;have h':(Zg c s (g++[x]++r)).2=true:=by rw[YI];exact h
   obtain⟨q1,q2⟩:=ZHh c s r (g++[x]) b (by omega) h';rw[q1] at q2|-;rw[YI] at q2|-;exact⟨rfl,by simpa using q2⟩
structure Sem (s0:TC) (c:CORT) (ev:List EVTT) (cp:List TC) (it:List ITMT):Prop where
 hcp:cp=Zrt s0 ev
 un:unl c.1=unl (Zx (Za5 s0 ev) c.2.1)
 nx:1<=c.2.2.2.2.1/\c.2.2.2.2.1<=9
 rest:c.2.1=0->c.1.2.2.2.2.1=true->(c.2.2.2.2.1=8\/c.2.2.2.2.1=9)/\c.2.2.1=[]
 nine:c.2.2.2.2.1=9->c.2.1=0/\c.1.2.2.2.2.1=true
 cy:(c.2.2.2.2.1<4\/6<c.2.2.2.2.1)->c.2.2.2.1=(Zg c.1 c.2.1 c.2.2.1).1/\(Zg c.1 c.2.1 c.2.2.1).2=true
 hit:cyI it=cyA s0 ev++cyX (Zx (Za5 s0 ev) c.2.1) c.2.1 [] c.2.2.1
 ln:(cyX (Zx (Za5 s0 ev) c.2.1) c.2.1 [] c.2.2.1).length=c.2.2.1.length
 pt:(c.2.2.2.2.1=2\/c.2.2.2.2.1=3\/c.2.2.2.2.1=7)->∃(l:List ITMT) (y:ITMT),it=l++[y]/\y.1=1/\y.2.2.2.1=(bif c.2.2.2.2.1==2 then 1 else 2)
 ps:4<=c.2.2.2.2.1->c.2.2.2.2.1<=6->∃(l:List ITMT) (y:ITMT),it=l++[y]/\y.1=1/\y.2.2.2.1=c.2.2.2.2.1-1/\y.2.1=c.2.2.2.1
theorem ZLq (h:unl a=unl b):a.2.2.2.2.1=b.2.2.2.2.1:=by simp only[unl,pinj] at h;exact h.2.2.2.2.1
theorem Zeh (c:TC) (s:Int) (h:Bool):(idlX c s h=8\/idlX c s h=9\/idlX c s h=1)/\(idlX c s h=9->s=0/\c.2.2.2.2.1=true)/\(s=0->c.2.2.2.2.1=true->idlX c s h=8\/idlX c s h=9):=by
 unfold idlX;cases h
 ·cases hh:c.2.2.2.2.1&&s==0
  ·simp only[Yb];refine⟨.inr (.inr trivial),λe=>by omega,λe1 e2=> ?_⟩;rw[e1,e2] at hh;simp at hh
  ·simp only[Ya,Yb];simp at hh;exact⟨.inr (.inl trivial),λ_=>⟨hh.2,hh.1⟩,λ_ _=>.inr trivial⟩
 ·simp only[Ya];exact⟨.inl trivial,λe=>by omega,λ_ _=>.inl trivial⟩
variable {s0:TC} {c:CORT} {cp:List TC} {it:List ITMT}
theorem ZH1 (h:Sem s0 c ev cp it) (e:EVTT) (h1:Zc1 (Za5 s0 ev) e=Za5 s0 ev) (h2:Zfn (Za5 s0 ev) e=[]):
  Sem s0 c (ev++[e]) (cp++[ZlQ s0 cp]) it:=by
 have hl:Za5 s0 (ev++[e])=Za5 s0 ev:=by rw[Zff,h1]
 refine⟨by rw[h.hcp,Zd6,Znu,h1],by rw[hl];exact h.un,h.nx,h.rest,h.nine,h.cy,by rw[hl,Zmd,h2,YS];exact h.hit,by rw[hl];exact h.ln,h.pt,h.ps⟩
theorem Zts (s:Int):ZtV (Zjz s)=true:=by
 unfold Zjz ZCM ZtV;simp only[RT.val];cases Za s
 ·cases s==5<;>rfl
 ·rfl
theorem ZDO (p:TC) (s:Int) (g:List Int) (h:Bool) (l:LINT) (hcp:cp=Zrt s0 ev) (un:unl p=unl (Zx (Za5 s0 ev) s)) (hh:s=0->p.2.2.2.2.1=true->False)
  (hit:cyI it=cyA s0 ev++cyX (Zx (Za5 s0 ev) s) s [] g) (ln:(cyX (Zx (Za5 s0 ev) s) s [] g).length=g.length):
  Sem s0 (endX p s g h l) (bif (Zg p s g).2 then ev else ev++[ZeO (Zjz s,s,g,Zgc,false,false,false,false,0,0) p l]) (bif (Zg p s g).2 then cp else cp++[finX p s g l]) it:=by
 unfold endX;dsimp only;cases hn:(Zg p s g).2
 ·simp only[Yb];generalize hq:finX p s g l=q;generalize Zc5 q l=k;generalize he:ZeO (Zjz s,s,g,Zgc,false,false,false,false,0,0) p l=e;have hpat:Zzc (Zx (Za5 s0 ev) s) e=p:=ZwO un.symm e (by rw[<-he,ZbS];exact⟨rfl,rfl,rfl,rfl⟩);have ha:Zc1 (Za5 s0 ev) e=q:=by
   have e1:e.1=Zjz s:=by rw[<-he,ZbS]
   have e2:e.2.1=s:=by rw[<-he,ZbS]
   have e3:e.2.2.1=g:=by rw[<-he,ZbS]
   have e4:e.2.2.2.1=l:=by rw[<-he,ZbS]
   unfold Zc1;rw[e1,Zts,e2,hpat,e3,e4];exact hq
  have hc:Zfn (Za5 s0 ev) e=cyX (Zx (Za5 s0 ev) s) s [] g:=by
   have e1:e.1=Zjz s:=by rw[<-he,ZbS]
   have e2:e.2.1=s:=by rw[<-he,ZbS]
   have e3:e.2.2.1=g:=by rw[<-he,ZbS]
   unfold Zfn cycE;rw[e1,Zts,e2,e3];rfl
  have hl:Za5 s0 (ev++[e])=q:=by rw[Zff,ha]
  obtain⟨i1,i2,i3⟩:=Zeh (Zx q k) k h;refine⟨by rw[hcp,Zd6,ha],by rw[hl],?_,λa b=>⟨i3 a b,rfl⟩,i2,λ_=>⟨rfl,Zjp _ _⟩,?_,by rw[hl];rfl,λe=> ?_,λe1 e2=> ?_⟩
  ·show 1<=idlX (Zx q k) k h/\idlX (Zx q k) k h<=9;omega
  ·rw[hl,Zmd,hc,hit];show _=_++[];rw[YS]
  ·exfalso;replace e:idlX (Zx q k) k h=2\/idlX (Zx q k) k h=3\/idlX (Zx q k) k h=7:=e;omega
  ·exfalso;replace e1:4<=idlX (Zx q k) k h:=e1;replace e2:idlX (Zx q k) k h<=6:=e2;omega
 ·simp only[Ya];obtain⟨i1,i2,i3⟩:=Zeh p s h;refine⟨hcp,un,?_,λa b=>(hh a b).elim,λe=>((hh (i2 e).1 (i2 e).2)).elim,λ_=>⟨rfl,hn⟩,hit,ln,λe=> ?_,λe1 e2=> ?_⟩
  ·show 1<=idlX p s h/\idlX p s h<=9;omega
  ·exfalso;replace e:idlX p s h=2\/idlX p s h=3\/idlX p s h=7:=e;omega
  ·exfalso;replace e1:4<=idlX p s h:=e1;replace e2:idlX p s h<=6:=e2;omega
theorem Zmc {l:List ITMT} {n:ITMT} (hk:k≠1) (hn:n.1=k):cyI (Zin l k c n)=cyI l:=by
 have h1:∀y:ITMT,y.1=k->∀l,cyI (l++[y])=cyI l:=λy hy l=>by
  rw[ZdX];have:(y.1==1)=false:=by rw[hy];simpa using hk
  rw[this];simp
 unfold Zin;cases hl:l.getLast? with
 |none=>exact h1 n hn l
 |some y=>
  simp only;obtain⟨l',rfl⟩:∃l',l=l'++[y]:=by
   rcases Y3 l with rfl|⟨l',z,rfl⟩
   ·simp at hl
   ·rw[YY] at hl|-;simp at hl;subst hl;exact⟨l',rfl⟩
  cases hs:Zrl y k c
  ·exact h1 n hn _
  ·have hy:y.1=k:=by simp[Zrl] at hs;exact hs.1
   simp only[Ya,ZaC];rw[h1 (Zqd y) hy,h1 y hy]
theorem ZiV (c:CORT) (t d:Int) (h:(t==3)=false):ZP c t d=c.2.2.2.1:=by unfold ZP ZgG;simp only[RT.val,h,Yb]
theorem ZOi (c:CORT) (d:Int) (p:TC) (h:p.1=c.1.1):ZP c 3 d=Za4 p c.2.2.2.1 d:=by unfold ZP ZgG Za4;rw[h];rfl
theorem Zrv (h:p.1=q.1) (x:TY) (d:Int):Za4 p x d=Za4 q x d:=by unfold Za4;rw[h]
theorem ZBQ (p a:TC) (h:a.1=p.1) (x:TY) (d:Int):Zzb a x (Za4 p x d).2.2.1=Za4 p x d:=by unfold Zzb Za4;rw[h];cases Zba x.1<;>rfl
theorem ZJo (ev:List EVTT) (c:CORT) (l:LINT) (d:Int) (cell:Cell) (hr:l.2.2.1=false):evE ev c l d cell false=bif (finS c l d).2 then ev++[ZeO (Zjz c.2.1,c.2.1,Zga c (ZU c) d,Zgc,false,false,false,false,0,0) (Zf c.1 l) l] else ev:=by unfold evE;rw[hr];rfl
theorem ZJp (cp:List TC) (s0:TC) (c a:CORT) (l:LINT) (d:Int) (hr:l.2.2.1=false):evC cp s0 c a l d false=bif (finS c l d).2 then cp++[(finS c l d).1] else cp:=by unfold evC;rw[hr];rfl
theorem itN (y:ITMT) (n:Int) (h:y.2.2.2.1=n) (h1:0<=n) (h2:n<=100):IntKind.wrap .i64 (y.2.2.2.1+1)=n+1:=by rw[h,Zv _ (by omega) (by omega)]
theorem ZH2 (h:Sem s0 c ev cp it) (l:LINT) (d:Int) (cell:Cell) (hr:l.2.2.1=false):
  Sem s0 (Zs c l d) (evE ev c l d cell false) (evC cp s0 c (Zs c l d) l d false) (ZbZ it c (ZP c (ZU c) d) (ZU c)):=by
 rw[ZJo _ _ _ _ _ hr,ZJp _ _ _ _ _ _ hr];obtain⟨hcp,un,nx,rest,nine,cy,hit,ln,pt,ps⟩:=h;obtain⟨p0,s,g,x,n,hd⟩:=c;simp only at un nx rest nine cy hit ln pt ps;have hst:ZU (p0,s,g,x,n,hd)=n:=by
  have h1:(decide (n<1)||decide (n>9))=false:=by simp;omega
  simp only[ZU,Zow,RT.val,h1,Yb]
 have hsx:Zab n=n:=by
  have h1:(decide (n<1)||decide (n>9))=false:=by simp;omega
  simp only[Zab,h1,Yb]
 have hup:=Zre p0 l;have hchip:(Zf p0 l).1=p0.1:=(Zoa hup).1;have hun:unl (Zf p0 l)=unl (Zx (Za5 s0 ev) s):=hup.trans un;have hhl:(Zf p0 l).2.2.2.2.1=p0.2.2.2.2.1:=ZLq hup;have hnxt:∀g,Zg (Zf p0 l) s g=Zg p0 s g:=λg=>Zzo hup s g
 rw[hst];have hcases:n=1\/n=2\/n=3\/n=4\/n=5\/n=6\/n=7\/n=8\/n=9:=by omega
 have hnf:∀k:Int,n=k->Zh4 k x=false->(k==3)=false->(finS (p0,s,g,x,n,hd) l d).2=false:=λk hk he h3=>by
  unfold finS rdS;have:(n !=3)=true:=by rw[hk];simpa [bne] using h3
  simp only[hr,this,hk▸he,Ya,Yb,Yl]
 have sem456:∀k:Int,(k=4\/k=5\/k=6)->n=k->Sem s0 (Zs (p0,s,g,x,n,hd) l d) (bif (finS (p0,s,g,x,n,hd) l d).2 then ev++[ZeO (Zjz s,s,Zga (p0,s,g,x,n,hd) n d,Zgc,false,false,false,false,0,0) (Zf p0 l) l] else ev)
   (bif (finS (p0,s,g,x,n,hd) l d).2 then cp++[(finS (p0,s,g,x,n,hd) l d).1] else cp) (ZbZ it (p0,s,g,x,n,hd) (ZP (p0,s,g,x,n,hd) n d) n):=by
  intro k hk e;subst e;obtain⟨l',y,rfl,y1,yN,yc⟩:=ps (by rcases hk with rfl|rfl|rfl<;>decide) (by rcases hk with rfl|rfl|rfl<;>decide);clear pt ps;have b1:(n==1)=false:=by rcases hk with rfl|rfl|rfl<;>rfl
  have b2:(n==2)=false:=by rcases hk with rfl|rfl|rfl<;>rfl
  have b3:(n==3)=false:=by rcases hk with rfl|rfl|rfl<;>rfl
  have b7:(n==7)=false:=by rcases hk with rfl|rfl|rfl<;>rfl
  have b8:(n==8)=false:=by rcases hk with rfl|rfl|rfl<;>rfl
  have b9:(n==9)=false:=by rcases hk with rfl|rfl|rfl<;>rfl
  have b10:(n==10)=false:=by rcases hk with rfl|rfl|rfl<;>rfl
  have b3':(n !=3)=true:=by rcases hk with rfl|rfl|rfl<;>rfl
  have hi:ZbZ (l'++[y]) (p0,s,g,x,n,hd) (ZP (p0,s,g,x,n,hd) n d) n=l'++[(y.1,x,y.2.2.1,n,y.2.2.2.2)]:=by
   rw[ZiV _ _ _ b3];have hkn:Zhu n=1:=by unfold Zhu;simp only[b8,b9,b10,Yb]
   have hcn:cycN (p0,s,g,x,n,hd) n x=x:=by unfold cycN;simp only[b8,b9,b10,Yb]
   unfold ZbZ;simp only[hkn,hcn,b1,b7];show ZcJ (l'++[y]) _=_;rw[ZaC,itN y (n-1) yN (by omega) (by omega)];simp
  rw[hi];have hit':cyI (l'++[(y.1,x,y.2.2.1,n,y.2.2.2.2)])=cyA s0 ev++cyX (Zx (Za5 s0 ev) s) s [] g:=by rw[<-hit,ZdX,ZdX];have q1:decide (n>=3)=true:=YA (by omega);have q2:decide (y.2.2.2.1>=3)=true:=YA (by omega);simp only[y1,q1,q2,yc]
  have hno:s=0->(Zf p0 l).2.2.2.2.1=true->False:=λa b=>by have:=rest a (by rw[<-hhl];exact b);omega
  have hby:Zga (p0,s,g,x,n,hd) n d=g:=by unfold Zga;simp only[b3,Yb]
  have hrd:rdS (p0,s,g,x,n,hd) n d=(x,g):=by unfold rdS;simp only[b3',Ya]
  have hen:Zh4 n x= !(decide (n<x.2.2.2)&& !(n==6)):=by
   unfold Zh4 Zk2;rcases hk with rfl|rfl|rfl
   ·by_cases q:(4:Int)<x.2.2.2
    ·have q1:decide (x.2.2.2<=4)=false:=Y2 (by omega);have q2:decide ((4:Int)<x.2.2.2)=true:=YA q;simp only[RT.val,q2];exact q1
    ·have q1:decide (x.2.2.2<=4)=true:=YA (by omega);have q2:decide ((4:Int)<x.2.2.2)=false:=Y2 q;simp only[RT.val,q2];exact q1
   ·by_cases q:(5:Int)<x.2.2.2
    ·have q1:decide (x.2.2.2<=5)=false:=Y2 (by omega);have q2:decide ((5:Int)<x.2.2.2)=true:=YA q;simp only[RT.val,q2];exact q1
    ·have q1:decide (x.2.2.2<=5)=true:=YA (by omega);have q2:decide ((5:Int)<x.2.2.2)=false:=Y2 q;simp only[RT.val,q2];exact q1
   ·cases decide ((6:Int)<x.2.2.2)<;>rfl
  have hclk:Zs (p0,s,g,x,n,hd) l d=bif decide (n<x.2.2.2)&& !(n==6) then (Zf p0 l,s,g,x,n+1,hd) else endX (Zf p0 l) s g hd l:=by unfold Zs;simp only[hr,hsx,b1,b2,b3,b7,b8,b9,Y9,Yb]
  cases hle:decide (n<x.2.2.2)&& !(n==6)
  ·have hck:Zs (p0,s,g,x,n,hd) l d=endX (Zf p0 l) s g hd l:=by rw[hclk,hle];rfl
   have hf:finS (p0,s,g,x,n,hd) l d=bif (Zg (Zf p0 l) s g).2 then (ZAb,false) else (finX (Zf p0 l) s g l,true):=by unfold finS;simp only[hr,hrd,hen,hle,Ya,Yb,Yf,Yl]
   have:=ZDO (Zf p0 l) s g hd l hcp hun hno hit' ln;rw[hck,hf,hby];cases hn:(Zg (Zf p0 l) s g).2
   ·rw[hn] at this;exact this
   ·rw[hn] at this;exact this
  ·have hf:(finS (p0,s,g,x,n,hd) l d).2=false:=by unfold finS;simp only[hr,hrd,hen,hle,Ya,Yb,Yf,Yl]
   have hck:Zs (p0,s,g,x,n,hd) l d=(Zf p0 l,s,g,x,n+1,hd):=by rw[hclk,hle];rfl
   have h6:n≠6:=by simp at hle;exact hle.2
   rw[hck,hf];refine⟨hcp,hun,by show 1<=n+1/\n+1<=9;omega,λa b=>(hno a b).elim,λe=>by replace e:n+1=9:=e;omega,λe=>by replace e:n+1<4\/6<n+1:=e;omega,hit',ln,λe=>by replace e:n+1=2\/n+1=3\/n+1=7:=e;omega,λ_ _=>⟨l',_,rfl,y1,?_,rfl⟩⟩;show n=n+1-1;omega
 rcases hcases with e|e|e|e|e|e|e|e|e
 ·--T1
  subst e;rw[hnf 1 rfl rfl rfl];have hck:Zs (p0,s,g,x,1,hd) l d=(Zf p0 l,s,g,x,2,hd):=by unfold Zs;simp only[hr,hsx];rfl
  rw[hck,ZiV _ _ _ rfl];refine⟨hcp,hun,⟨(by decide:(1:Int)<=2),(by decide:(2:Int)<=9)⟩,λa b=> ?_,λe=>by simp at e,λ_=>by rw[hnxt];exact cy (by omega),?_,ln,λ_=>⟨it,_,rfl,rfl,rfl⟩,λe=>by simp at e⟩
  ·have:=rest a (by rw[<-hhl];exact b);omega
  ·show cyI (it++[_])=_;rw[ZdX];show cyI it++[]=_;rw[YS];exact hit
 ·--T2
  subst e;rw[hnf 2 rfl rfl rfl];obtain⟨l',y,rfl,y1,yN⟩:=pt (.inl rfl);have hi:ZbZ (l'++[y]) (p0,s,g,x,2,hd) (ZP (p0,s,g,x,2,hd) 2 d) 2=l'++[(y.1,x,y.2.2.1,2,y.2.2.2.2)]:=by rw[ZiV _ _ _ rfl];show ZcJ (l'++[y]) _=_;rw[ZaC,itN y 1 yN (by decide) (by decide)];rfl
  have hcy:cyI (l'++[(y.1,x,y.2.2.1,2,y.2.2.2.2)])=cyI (l'++[y]):=by rw[ZdX,ZdX];have:y.2.2.2.1=1:=yN;rw[this,y1];rfl
  rw[hi];have hno:s=0->p0.2.2.2.2.1=true->False:=λa b=>by have:=rest a b;omega
  have hck:Zs (p0,s,g,x,2,hd) l d=(Zf p0 l,s,g,x,bif l.1|| !Zk x.1 then 3 else 7,bif l.1|| !Zk x.1 then l.2.1 else hd):=by unfold Zs;simp only[hr,hsx];show (bif l.1|| !Zk x.1 then _ else _)=_;cases l.1|| !Zk x.1<;>rfl
  rw[hck];have hk:(bif l.1|| !Zk x.1 then (3:Int) else 7)=3\/(bif l.1|| !Zk x.1 then (3:Int) else 7)=7:=by cases l.1|| !Zk x.1<;>simp
  generalize (bif l.1|| !Zk x.1 then (3:Int) else 7)=k at hk;refine⟨hcp,hun,by show 1<=k/\k<=9;omega,λa b=>(hno a (by rw[<-hhl];exact b)).elim,λe=>by replace e:k=9:=e;omega,λ_=>by rw[hnxt];exact cy (by omega),by rw[hcy];exact hit,ln,λ_=>⟨l',_,rfl,y1,?_⟩,λe1 e2=>by replace e1:4<=k:=e1;replace e2:k<=6:=e2;omega⟩;show (2:Int)=bif k==2 then 1 else 2
  rcases hk with rfl|rfl<;>rfl
 ·--T3
  subst e;obtain⟨l',y,rfl,y1,yN⟩:=pt (.inr (.inl rfl));obtain⟨cy1,cy2⟩:=cy (by omega);generalize hx3:Za4 (Zf p0 l) x d=x3;have hx3':Za4 p0 x d=x3:=by rw[<-Zrv hchip];exact hx3
  have hcur:ZP (p0,s,g,x,3,hd) 3 d=x3:=by rw[ZOi _ _ (Zf p0 l) hchip];exact hx3
  have hi:ZbZ (l'++[y]) (p0,s,g,x,3,hd) (ZP (p0,s,g,x,3,hd) 3 d) 3=l'++[(y.1,x3,y.2.2.1,3,y.2.2.2.2)]:=by rw[hcur];show ZcJ (l'++[y]) _=_;rw[ZaC,itN y 2 yN (by decide) (by decide)];rfl
  rw[hi];have hac:=ZqJ (Za5 s0 ev) s;have hna:∀g,Zg (Zx (Za5 s0 ev) s) s g=Zg p0 s g:=λg=>(Zzo un s g).symm
  obtain⟨k1,k2⟩:=ZHh (Zx (Za5 s0 ev) s) s g [] x3.2.2.1 ln (by rw[List.nil_append,hna];exact cy2);rw[List.nil_append,hna,<-cy1,<-hx3',ZBQ p0 (Zx (Za5 s0 ev) s) (Zoa un).1.symm,hx3'] at k1;have hit':cyI (l'++[(y.1,x3,y.2.2.1,3,y.2.2.2.2)])=cyA s0 ev++cyX (Zx (Za5 s0 ev) s) s [] (g++[x3.2.2.1]):=by rw[k1,<-List.append_assoc,<-hit,ZdX,ZdX];have:y.2.2.2.1=2:=yN;rw[this,y1];show cyI l'++[x3]=cyI l'++[]++[x3];rw[YS]
  have hno:s=0->(Zf p0 l).2.2.2.2.1=true->False:=λa b=>by have:=rest a (by rw[<-hhl];exact b);omega
  have hby:Zga (p0,s,g,x,3,hd) 3 d=g++[x3.2.2.1]:=by unfold Zga;rw[hcur];rfl
  have hrd:rdS (p0,s,g,x,3,hd) 3 d=(x3,g++[x3.2.2.1]):=by show (Za4 p0 x d,g++[(Za4 p0 x d).2.2.1])=_;rw[hx3']
  have hen:Zh4 3 x3=le3 x3.2.2.2:=rfl;cases hle:le3 x3.2.2.2
  ·have hf:(finS (p0,s,g,x,3,hd) l d).2=false:=by unfold finS;simp only[hr,hrd,hen,hle,Ya,Yb,Yl]
   have hck:Zs (p0,s,g,x,3,hd) l d=(Zf p0 l,s,g++[x3.2.2.1],x3,4,hd):=by unfold Zs;simp only[hr,hsx,hx3,hle];rfl
   rw[hck,hf];exact⟨hcp,hun,⟨(by decide:(1:Int)<=4),(by decide:(4:Int)<=9)⟩,λa b=>(hno a b).elim,λe=>by simp at e,λe=>by simp at e,hit',k2,λe=>by simp at e,λ_ _=>⟨l',_,rfl,y1,rfl,rfl⟩⟩
  ·have hck:Zs (p0,s,g,x,3,hd) l d=endX (Zf p0 l) s (g++[x3.2.2.1]) hd l:=by unfold Zs;simp only[hr,hsx,hx3,hle];rfl
   have hf:finS (p0,s,g,x,3,hd) l d=bif (Zg (Zf p0 l) s (g++[x3.2.2.1])).2 then (ZAb,false) else (finX (Zf p0 l) s (g++[x3.2.2.1]) l,true):=by unfold finS;simp only[hr,hrd,hen,hle,Ya,Yb,Yf]
   have:=ZDO (Zf p0 l) s (g++[x3.2.2.1]) hd l hcp hun hno hit' k2;rw[hck,hf,hby];cases hn:(Zg (Zf p0 l) s (g++[x3.2.2.1])).2
   ·rw[hn] at this;exact this
   ·rw[hn] at this;exact this
 ·exact sem456 4 (.inl rfl) e
 ·exact sem456 5 (.inr (.inl rfl)) e
 ·exact sem456 6 (.inr (.inr rfl)) e
 ·--TWait
  subst e;rw[hnf 7 rfl rfl rfl];obtain⟨l',y,rfl,y1,yN⟩:=pt (.inr (.inr rfl));have hi:ZbZ (l'++[y]) (p0,s,g,x,7,hd) (ZP (p0,s,g,x,7,hd) 7 d) 7=l'++[(y.1,x,IntKind.wrap .i64 (y.2.2.1+1),y.2.2.2)]:=by rw[ZiV _ _ _ rfl];show ZcJ (l'++[y]) _=_;rw[ZaC];rfl
  have hcy:cyI (l'++[(y.1,x,IntKind.wrap .i64 (y.2.2.1+1),y.2.2.2)])=cyI (l'++[y]):=by rw[ZdX,ZdX];have:y.2.2.2.1=2:=yN;rw[this,y1];rfl
  rw[hi];have hno:s=0->p0.2.2.2.2.1=true->False:=λa b=>by have:=rest a b;omega
  have hck:Zs (p0,s,g,x,7,hd) l d=(Zf p0 l,s,g,x,bif l.1|| !Zk x.1 then 3 else 7,bif l.1|| !Zk x.1 then l.2.1 else hd):=by unfold Zs;simp only[hr,hsx];show (bif l.1|| !Zk x.1 then _ else _)=_;cases l.1|| !Zk x.1<;>rfl
  rw[hck];have hk:(bif l.1|| !Zk x.1 then (3:Int) else 7)=3\/(bif l.1|| !Zk x.1 then (3:Int) else 7)=7:=by cases l.1|| !Zk x.1<;>simp
  generalize (bif l.1|| !Zk x.1 then (3:Int) else 7)=k at hk;refine⟨hcp,hun,by show 1<=k/\k<=9;omega,λa b=>(hno a (by rw[<-hhl];exact b)).elim,λe=>by replace e:k=9:=e;omega,λ_=>by rw[hnxt];exact cy (by omega),by rw[hcy];exact hit,ln,λ_=>⟨l',_,rfl,y1,?_⟩,λe1 e2=>by replace e1:4<=k:=e1;replace e2:k<=6:=e2;omega⟩;show y.2.2.2.1=bif k==2 then 1 else 2
  rw[show y.2.2.2.1=2 from yN];rcases hk with rfl|rfl<;>rfl
 ·--THold
  subst e;rw[hnf 8 rfl rfl rfl];have hck:Zs (p0,s,g,x,8,hd) l d=(Zf p0 l,s,g,x,idlX (Zf p0 l) s l.2.1,hd):=by unfold Zs;simp only[hr,hsx];rfl
  have hcy:cyI (ZbZ it (p0,s,g,x,8,hd) (ZP (p0,s,g,x,8,hd) 8 d) 8)=cyI it:=Zmc (by decide) rfl;rw[hck];obtain⟨i1,i2,i3⟩:=Zeh (Zf p0 l) s l.2.1;generalize idlX (Zf p0 l) s l.2.1=k at i1 i2 i3;refine⟨hcp,hun,by show 1<=k/\k<=9;omega,λa b=>⟨i3 a b,(rest a (by rw[<-hhl];exact b)).2⟩,i2,λ_=>by rw[hnxt];exact cy (by omega),by rw[hcy];exact hit,ln,λe=>by replace e:k=2\/k=3\/k=7:=e;omega,λe1 e2=>by replace e1:4<=k:=e1;replace e2:k<=6:=e2;omega⟩
 ·--THalt
  subst e;rw[hnf 9 rfl rfl rfl];obtain⟨z1,z2⟩:=nine rfl;obtain⟨_,z3⟩:=rest z1 z2;subst z1;subst z3;have hcy:cyI (ZbZ it (p0,0,[],x,9,hd) (ZP (p0,0,[],x,9,hd) 9 d) 9)=cyI it:=Zmc (by decide) rfl;have hck:Zs (p0,0,[],x,9,hd) l d=bif Zc5 (Zf p0 l) l==0 then (Zf p0 l,0,[],x,bif l.2.1 then 8 else 9,hd) else (Zx (Zf p0 l) (Zc5 (Zf p0 l) l),Zc5 (Zf p0 l) l,[],(Zg (Zx (Zf p0 l) (Zc5 (Zf p0 l) l)) (Zc5 (Zf p0 l) l) []).1,bif l.2.1 then 8 else 1,hd):=by unfold Zs;simp only[hr,hsx];rfl
  rw[hck];generalize Zc5 (Zf p0 l) l=k;cases hk:k==0
  ·simp only[Yb];have hk0:k≠0:=by simpa using hk
   have hn:(bif l.2.1 then (8:Int) else 1)=8\/(bif l.2.1 then (8:Int) else 1)=1:=by cases l.2.1<;>simp
   generalize (bif l.2.1 then (8:Int) else 1)=n at hn;refine⟨hcp,ZLr (hun.trans (by rw[ZJA])) k,by show 1<=n/\n<=9;omega,λa _=>(hk0 a).elim,λe=>by replace e:n=9:=e;omega,λ_=>⟨rfl,Zjp _ _⟩,by rw[hcy];exact hit,rfl,λe=>by replace e:n=2\/n=3\/n=7:=e;omega,λe1 e2=>by replace e1:4<=n:=e1;replace e2:n<=6:=e2;omega⟩
  ·simp only[Ya];have hn:(bif l.2.1 then (8:Int) else 9)=8\/(bif l.2.1 then (8:Int) else 9)=9:=by cases l.2.1<;>simp
   generalize (bif l.2.1 then (8:Int) else 9)=n at hn;refine⟨hcp,hun,by show 1<=n/\n<=9;omega,λa _=>⟨hn,rfl⟩,λ_=>⟨rfl,by rw[<-hhl] at z2;exact z2⟩,λ_=>by rw[hnxt];exact cy (by omega),by rw[hcy];exact hit,rfl,λe=>by replace e:n=2\/n=3\/n=7:=e;omega,λe1 e2=>by replace e1:4<=n:=e1;replace e2:n<=6:=e2;omega⟩
end
end Go.Proofs.YtpnjbfjomebppaaGreat
