import Derived.Test.YtghoimllhpjkjaaGreatIsaQ
import Derived.Test.YtghoimllhpjkjaaGreatS3D
import Derived.Test.YtghoimllhpjkjaaGreatProg
open Go.IntKind (u8 u16 i64)
open Go Go.S3 Go.Proofs Go.Proofs.Cells
set_option linter.unusedVariables false
set_option linter.unusedSimpArgs false
set_option maxRecDepth 100000
namespace Go.Proofs.YtghoimllhpjkjaaGreat
noncomputable section
theorem smCb {l:List Cell} (h:l.length<=1000000):smC l=true:=Zav (by have:=mst;omega)
theorem smGb {l:List Zag} (h:l.length<=1000000):smG l=true:=Zav (by have:=mst;omega)
def Z8 (b:BRDT) (s:SYST) (i:INPT):SYST:=(s.1,s.2.1,(bif !b.2.2.2.2.2.1 then ZEI s.2.2.1 i.2.2.2.2.2.2.2.2.1 else s.2.2.1),s.2.2.2)
def ZdB (b:BRDT) (s:SYST) (i:INPT):LINT:=
 (i.1&&decide (ZhE s>=ZSA b s.1.2.2.2.1),i.2.1||Zci s.2.2.2.1,i.2.2.1,i.2.2.2.1,i.2.2.2.2.1,i.2.2.2.2.2.1,i.2.2.2.2.2.2.1,i.2.2.2.2.2.2.2.1,
  bif b.2.2.2.2.2.1 then andI .u8 i.2.2.2.2.2.2.2.2.1 1==1 else vInt s.2.2.1)
def busS (b:BRDT) (s:SYST) (i:INPT):SYST×Int:=
 let x:=s.1.2.2.2.1
 let q:=Zdw b (IntKind.wrap .u8 x.2.1)
 let d:=Zf2 b (IntKind.wrap .u8 x.2.1)
 bif i.2.2.1||(Zae s.1 !=3|| !ZcQ x.1) then (s,0) else
 bif decide (x.1>=1)&&decide (x.1<=5) then (s,ZqU b.2.1 s.2.1 x.2.1) else
 bif x.1 !=6&&b.2.2.2.2.2.1 then (s,i.2.2.2.2.2.2.2.2.2) else
 bif x.1 !=6 then ((s.1,s.2.1,(vAck s.2.2.1).1,s.2.2.2),(vAck s.2.2.1).2) else
 bif q.2 then ((s.1,s.2.1,(ZSH s.2.2.1 q.1).1,s.2.2.2),(ZSH s.2.2.1 q.1).2) else
 bif d.2 then (s,ZLV s.2.2.2.1 d.1) else (s,i.2.2.2.2.2.2.2.2.2)
def Zhv (b:BRDT) (s:SYST) (x:TY):SYST:=
 let q:=Zdw b (IntKind.wrap .u8 x.2.1)
 let d:=Zf2 b (IntKind.wrap .u8 x.2.1)
 bif x.1 !=7 then (s.1,ZbG b.2.1 s.2.1 x.2.1 x.2.2.1,s.2.2) else
 (s.1,s.2.1,(bif q.2 then ZLN s.2.2.1 q.1 x.2.2.1 else s.2.2.1),(bif q.2 then s.2.2.2.1 else bif d.2 then ZzS s.2.2.2.1 d.1 x.2.2.1 else s.2.2.2.1),s.2.2.2.2.1,
  s.2.2.2.2.2++[(IntKind.wrap .u8 x.2.1,x.2.2.1)])
def stepP (p:PICT) (n:Int):PICT:=
 (p.1,p.2.1,p.2.2.1,p.2.2.2.1,p.2.2.2.2.1,p.2.2.2.2.2.1,p.2.2.2.2.2.2.1,p.2.2.2.2.2.2.2.1,p.2.2.2.2.2.2.2.2.1,p.2.2.2.2.2.2.2.2.2.1,p.2.2.2.2.2.2.2.2.2.2.1,p.2.2.2.2.2.2.2.2.2.2.2.1,
  p.2.2.2.2.2.2.2.2.2.2.2.2.1,p.2.2.2.2.2.2.2.2.2.2.2.2.2.1,p.2.2.2.2.2.2.2.2.2.2.2.2.2.2.1,p.2.2.2.2.2.2.2.2.2.2.2.2.2.2.2.1,p.2.2.2.2.2.2.2.2.2.2.2.2.2.2.2.2.1,n,p.2.2.2.2.2.2.2.2.2.2.2.2.2.2.2.2.2.2)
def ZRB (p:PINT):Bool:=p.2.2.2.2.2.2.2.2.2.2.2.2.2.2.2.1
def ZzE (s:SYST) (i:INPT):Bool:= !i.2.2.1&&(Zae s.1==3&&ZjT s.1.2.2.2.1.1)
def Zh7 (b:BRDT) (s:SYST) (i:INPT):SYST:=
 let t:=Z8 b s i
 let u:=busS b t i
 ((Zaa u.1.1 (ZdB b t i) u.2),u.1.2.1,u.1.2.2.1,u.1.2.2.2.1,ZhE t,u.1.2.2.2.2.2)
def ZfM (b:BRDT) (s:SYST) (i:INPT):SYST:=bif ZzE s i then Zhv b (Zh7 b s i) s.1.2.2.2.1 else Zh7 b s i
def pinS (b:BRDT) (s:SYST) (i:INPT):PINT:=Zum (busS b (Z8 b s i) i).1.1 (ZdB b (Z8 b s i) i) (busS b (Z8 b s i) i).2
def Zjb (b:BRDT) (s:SYST) (i:INPT):Bool:=ZRB (pinS b s i)&&Zci (ZfM b s i).2.2.2.1
def ZQ3 (b:BRDT) (s:SYST) (i:INPT):SYST:=
 let w:=ZfM b s i
 bif Zjb b s i then (w.1,ZbG b.2.1 w.2.1 w.2.2.2.1.1 w.2.2.2.1.2.1,w.2.2.1,(IntKind.wrap .u16 (w.2.2.2.1.1+1),w.2.2.2.1.2.1,IntKind.wrap .i64 (w.2.2.2.1.2.2-1)),w.2.2.2.2) else w
def ZNr (s:SYST) (r:Bool):SYST:=bif r then (s.1,s.2.1,stepP s.2.2.1 0,(s.2.2.2.1.1,s.2.2.2.1.2.1,0),s.2.2.2.2) else s
def ZbJ (b:BRDT) (s:SYST) (i:INPT):SYST×PINT×LINT×Int×Cell×Bool:=
 (ZNr (ZQ3 b s i) i.2.2.1,pinS b s i,ZdB b (Z8 b s i) i,(busS b (Z8 b s i) i).2,
  (bif Zjb b s i then ((ZfM b s i).2.2.2.1.1,(ZfM b s i).2.2.2.1.2.1) else (0,0)),Zjb b s i)
theorem ZSz (b:BRDT) (x:TY) (hg:smG b.2.1=true):ZEi b x=true:=by
 unfold ZEi ZEh
 simp only[RT.val,hg,Bool.or_true,cond_true]
 cases decide (x.1>=1)&&decide (x.1<=5)
 ·cases x.1==6||x.1==7<;>rfl
 ·rfl
theorem ZHU (b:BRDT) (s:SYST) (i:INPT) (hg:smG b.2.1=true):Zlh b s i=true/\Zr6 b s i=ZdB b s i:=by
 have hv:(Zii b s i).val=some (ZdB b s i):=by
  unfold Zii ZdB
  simp only[RT.val,ZXw,ZSz b _ hg,Bool.or_true,cond_true,Bool.cond_self]
 exact⟨by simp only[Zlh,hv];rfl,by simp only[Zr6,hv,getO]⟩
theorem ZXm (b:BRDT) (s:SYST) (i:INPT) (hg:smG b.2.1=true) (hc:smC s.2.1=true):ZSD b s i=true/\wBus b s i=busS b s i:=by
 have hv:(ZLG b s i).val=some (busS b s i):=by
  unfold ZLG busS
  simp only[RT.val,ZXz,ZSG,ZLT,hg,hc,Zec,ZcD,R.sel_eq,Bool.and_self,Bool.or_true,Bool.not_true,Bool.false_or,cond_true]
  cases i.2.2.1||(Zae s.1 !=3|| !ZcQ s.1.2.2.2.1.1)
  ·cases decide (s.1.2.2.2.1.1>=1)&&decide (s.1.2.2.2.1.1<=5)
   ·cases s.1.2.2.2.1.1 !=6
    ·cases (Zdw b (IntKind.wrap .u8 s.1.2.2.2.1.2.1)).2
     ·cases (Zf2 b (IntKind.wrap .u8 s.1.2.2.2.1.2.1)).2<;>rfl
     ·rfl
    ·cases b.2.2.2.2.2.1<;>rfl
   ·rfl
  ·rfl
 exact⟨by simp only[ZSD,hv];rfl,by simp only[wBus,hv,getO]⟩
theorem ZLk (b:BRDT) (s:SYST) (x:TY) (hg:smG b.2.1=true) (hc:smC s.2.1=true) (ho:s.2.2.2.2.2.length<=1000000):Zr3 b s x=true/\ZEg b s x=Zhv b s x:=by
 have hms:=mst
 have h1:Nat.ble (List.length s.2.2.2.2.2) most=true:=Zav (by omega)
 have h2:∀y:Int×Int,Nat.ble (List.length (s.2.2.2.2.2++[y])) most=true:=λy=>Zav (by simp;omega)
 have hv:(ZlX b s x).val=some (Zhv b s x):=by
  unfold ZlX Zhv
  simp only[RT.val,ZLL,h1,h2,hg,hc,R.sel_eq,Bool.and_self,Bool.or_true,Bool.not_true,Bool.false_or,cond_true,List.nil_append]
  cases x.1 !=7
  ·rfl
  ·rfl
 exact⟨by simp only[Zr3,hv];rfl,by simp only[ZEg,hv,getO]⟩
theorem ZlU (b:BRDT) (s:SYST) (i:INPT):(busS b s i).1.1=s.1/\(busS b s i).1.2.1=s.2.1/\(busS b s i).1.2.2.2=s.2.2.2:=by
 unfold busS
 dsimp only
 cases i.2.2.1||(Zae s.1 !=3|| !ZcQ s.1.2.2.2.1.1)
 ·cases decide (s.1.2.2.2.1.1>=1)&&decide (s.1.2.2.2.1.1<=5)
  ·cases s.1.2.2.2.1.1 !=6
   ·cases (Zdw b (IntKind.wrap .u8 s.1.2.2.2.1.2.1)).2
    ·cases (Zf2 b (IntKind.wrap .u8 s.1.2.2.2.1.2.1)).2<;>exact⟨rfl,rfl,rfl⟩
    ·exact⟨rfl,rfl,rfl⟩
   ·cases b.2.2.2.2.2.1<;>exact⟨rfl,rfl,rfl⟩
  ·exact⟨rfl,rfl,rfl⟩
 ·exact⟨rfl,rfl,rfl⟩
theorem Zw8 (b:BRDT) (s:SYST) (x:TY):(Zhv b s x).1=s.1/\(Zhv b s x).2.1.length<=s.2.1.length+1/\(Zhv b s x).2.2.2.2.2.length<=s.2.2.2.2.2.length+1:=by
 have:=Zib b.2.1 s.2.1 x.2.1 x.2.2.1
 unfold Zhv
 dsimp only
 cases x.1 !=7
 ·exact⟨rfl,by simp only[cond_false];omega,by simp only[cond_false];simp⟩
 ·exact⟨rfl,by simp only[cond_true];omega,by simp only[cond_true];omega⟩
theorem ZHJ (b:BRDT) (s:SYST) (i:INPT):(Zh7 b s i).2.1=s.2.1/\(Zh7 b s i).2.2.2.2.2=s.2.2.2.2.2:=by
 have h:=ZlU b (Z8 b s i) i
 unfold Zh7
 simp only[h.1,h.2.1,h.2.2]
 exact⟨rfl,rfl⟩
theorem Zwt (b:BRDT) (s:SYST) (i:INPT):(ZfM b s i).1=(Zh7 b s i).1/\(ZfM b s i).2.1.length<=s.2.1.length+1/\(ZfM b s i).2.2.2.2.2.length<=s.2.2.2.2.2.length+1:=by
 have h1:=ZHJ b s i
 have h2:=Zw8 b (Zh7 b s i) s.1.2.2.2.1
 rw[h1.1,h1.2] at h2
 unfold ZfM
 cases ZzE s i
 ·exact⟨rfl,by simp only[cond_false,h1.1];omega,by simp only[cond_false,h1.2];omega⟩
 ·exact h2
theorem Zzs (b:BRDT) (s:SYST) (i:INPT):(ZbJ b s i).1.1=(Zh7 b s i).1/\(ZbJ b s i).1.2.1.length<=s.2.1.length+2/\(ZbJ b s i).1.2.2.2.2.2.length<=s.2.2.2.2.2.length+1:=by
 have h1:=Zwt b s i
 have h2:=Zib b.2.1 (ZfM b s i).2.1 (ZfM b s i).2.2.2.1.1 (ZfM b s i).2.2.2.1.2.1
 unfold ZbJ ZNr ZQ3
 dsimp only
 cases Zjb b s i<;>cases i.2.2.1<;>simp only[cond_true,cond_false]<;>exact⟨h1.1,by omega,h1.2.2⟩
theorem ZLC (b:BRDT) (s:SYST) (i:INPT) (hg:smG b.2.1=true) (hc:s.2.1.length<=900000) (ho:s.2.2.2.2.2.length<=900000) (hk:s.1.2.2.1.length<=900000):
  Zsb b s i=true/\ZEr b s i=ZbJ b s i:=by
 have hms:=mst
 have hv:(Zl5 b s i).val=some (ZbJ b s i):=by
  have hr:(s.1,s.2.1,(bif !b.2.2.2.2.2.1 then ZEI s.2.2.1 i.2.2.2.2.2.2.2.2.1 else s.2.2.1),s.2.2.2)=Z8 b s i:=rfl
  have h1:=ZHU b (Z8 b s i) i hg
  have h2:=ZXm b (Z8 b s i) i hg (smCb (by show s.2.1.length<=_;omega))
  have h3:=ZlU b (Z8 b s i) i
  have h4:ZNp (busS b (Z8 b s i) i).1.1=true:=by rw[h3.1];exact Zmz.2 (by show s.1.2.2.1.length+1<=_;omega)
  have h5:=ZHJ b s i
  have h6:=ZLk b (Zh7 b s i) s.1.2.2.2.1 hg (smCb (by rw[h5.1];omega)) (by rw[h5.2];omega)
  have h7:=Zwt b s i
  have hcs:(Zaa (busS b (Z8 b s i) i).1.1 (ZdB b (Z8 b s i) i) (busS b (Z8 b s i) i).2,(busS b (Z8 b s i) i).1.2.1,(busS b (Z8 b s i) i).1.2.2.1,(busS b (Z8 b s i) i).1.2.2.2.1,ZhE (Z8 b s i),
   (busS b (Z8 b s i) i).1.2.2.2.2.2)=Zh7 b s i:=rfl
  have ht:∀d:QT7,Zio d=bif Zci d then ((IntKind.wrap .u16 (d.1+1),d.2.1,IntKind.wrap .i64 (d.2.2-1)),(d.1,d.2.1),true) else ((0,0,0),(0,0),false):=λd=>by
   unfold Zio ZjF
   simp only[RT.val]
   cases Zci d<;>rfl
  have h8:smC (Zhv b (Zh7 b s i) s.1.2.2.2.1).2.1=true:=smCb (by have:=(Zw8 b (Zh7 b s i) s.1.2.2.2.1).2.1;rw[h5.1] at this;omega)
  have h9:smC (busS b (Z8 b s i) i).1.2.1=true:=smCb (by rw[h3.2.1];show s.2.1.length<=_;omega)
  unfold Zl5
  simp only[hr,RT.val,h1.1,h1.2,h2.1,h2.2,h4,clkX,hcs,h6.1,h6.2,ht,R.sel_eq,Bool.or_true,cond_true]
  unfold ZbJ ZNr ZQ3 Zjb ZfM ZzE pinS ZRB
  dsimp only
  cases !i.2.2.1&&(Zae s.1==3&&ZjT s.1.2.2.2.1.1)
  ·simp only[cond_false,h9,hg,Bool.and_self,Bool.or_true,cond_true]
   cases (Zum (busS b (Z8 b s i) i).1.1 (ZdB b (Z8 b s i) i) (busS b (Z8 b s i) i).2).2.2.2.2.2.2.2.2.2.2.2.2.2.2.2.1
   ·cases i.2.2.1<;>rfl
   ·have e:Zci ((busS b (Z8 b s i) i).1.2.2.2.1.1,(busS b (Z8 b s i) i).1.2.2.2.1.2.1,(busS b (Z8 b s i) i).1.2.2.2.1.2.2)=Zci (Zh7 b s i).2.2.2.1:=rfl
    rw[e]
    cases Zci (Zh7 b s i).2.2.2.1<;>cases i.2.2.1<;>rfl
  ·simp only[cond_true,h8,hg,Bool.and_self,Bool.or_true]
   cases (Zum (busS b (Z8 b s i) i).1.1 (ZdB b (Z8 b s i) i) (busS b (Z8 b s i) i).2).2.2.2.2.2.2.2.2.2.2.2.2.2.2.2.1
   ·cases i.2.2.1<;>rfl
   ·cases Zci (Zhv b (Zh7 b s i) s.1.2.2.2.1).2.2.2.1<;>cases i.2.2.1<;>rfl
 exact⟨by simp only[Zsb,hv];rfl,by simp only[ZEr,hv,getO]⟩
def ZeY {α:Type} (l:List α) (f:α->α):List α:=match l.getLast? with
 |some y=>l.dropLast++[f y]
 |none=>[]
theorem Zct {α:Type} (l:List α) (y:α) (f:α->α):ZeY (l++[y]) f=l++[f y]:=by simp[ZeY]
def Zpp (Zab:TC) (l:List TC):TC:=l.getLastD Zab
theorem Zwu {α:Type} (l:List α) (y:α) (h:l.length<=1000000):IntKind.wrap .i64 (iN (l++[y]).length-1)=(l.length:Int):=by
 simp only[iN,List.length_append,List.length_cons,List.length_nil]
 rw[wrap_i64 _ (by omega) (by omega)];omega
theorem ZHv {r:R} (l:List r.den) (y:r.den):R.get r (l++[y]) (l.length:Int)=y:=by simp[R.get]
theorem ZE9 {α:Type} (l:List α) (y z:α):setI (l++[y]) (l.length:Int) z=l++[z]:=by
 simp[setI]
theorem ZFf {α:Type} (l:List α) (y:α):Zf (l.length:Int) (l++[y]).length=true:=ZI.2 ⟨by omega,by simp;omega⟩
def Zlb (t:Int):Int:=bif t==8 then 2 else bif t==9 then 3 else bif t==10 then 4 else 1
def cycN (c:CORT) (t:Int) (x:TY):TY:=bif t==8 then (0,0,0,0) else bif t==9 then (0,c.1.2.1.2.2.2.2.2.2.2.2.2,0,0) else bif t==10 then (0,0,0,0) else x
def ZUJ (c:CORT):Bool:=c.1.2.2.1
def sodC (c:CORT):Bool:=c.1.2.2.2.2.2.2.2.2.2.2.2.2
def ZM9 (y:ITMT) (k:Int) (c:CORT):Bool:=y.1==k&&(y.2.2.2.2.1==ZUJ c&&y.2.2.2.2.2==sodC c)
def ZZr (y:ITMT):ITMT:=(y.1,y.2.1,y.2.2.1,IntKind.wrap .i64 (y.2.2.2.1+1),y.2.2.2.2)
def Zy7 (l:List ITMT) (k:Int) (c:CORT) (n:ITMT):List ITMT:=match l.getLast? with
 |some y=>bif ZM9 y k c then ZeY l ZZr else l++[n]
 |none=>l++[n]
def Zfx (l:List ITMT) (c:CORT) (x:TY) (t:Int):List ITMT:=
 bif Zlb t !=1 then Zy7 l (Zlb t) c (Zlb t,cycN c t x,0,1,ZUJ c,sodC c)
 else bif t==1 then l++[(1,cycN c t x,0,1,ZUJ c,sodC c)]
 else bif t==7 then ZeY l (λy=>(y.1,cycN c t x,IntKind.wrap .i64 (y.2.2.1+1),y.2.2.2))
 else ZeY l (λy=>(y.1,cycN c t x,y.2.2.1,IntKind.wrap .i64 (y.2.2.2.1+1),y.2.2.2.2))
def ZHO:TC:=(0,(0,0,0,0,0,0,0,(false,false,false,false,false,false,false),0,0),false,false,false,0,false,false,false,false,false,false,false)
def ZfQ:LINT:=(false,false,false,false,false,false,false,false,false)
def rdS (c:CORT) (t d:Int):TY×List Int:=bif t !=3 then (c.2.2.2.1,c.2.2.1) else (Zdo c.1 c.2.2.2.1 d,c.2.2.1++[(Zdo c.1 c.2.2.2.1 d).2.2.1])
def finS (c:CORT) (l:LINT) (d:Int):TC×Bool:=
 bif l.2.2.1 then (ZHO,false) else
 bif !Zj1 c.2.2.2.2.1 (rdS c c.2.2.2.2.1 d).1 then (ZHO,false) else
 bif (Zl (Zm c.1 l) c.2.1 (rdS c c.2.2.2.2.1 d).2).2 then (ZHO,false) else (finX (Zm c.1 l) c.2.1 (rdS c c.2.2.2.2.1 d).2 l,true)
def ZeF (c:CORT) (t d:Int):List Int:=bif t==3 then c.2.2.1++[(ZaB c t d).2.2.1] else c.2.2.1
def evE (ev:List EVTT) (c:CORT) (l:LINT) (d:Int) (cell:Cell) (moved:Bool):List EVTT:=
 let e1:=bif (finS c l d).2 then ev++[Zfg (Zk8 c.2.1,c.2.1,ZeF c (Zae c) d,ZfQ,false,false,false,false,0,0) (Zm c.1 l) l] else ev
 bif l.2.2.1 then (bif Zdq c then ev++[Zfg (6,c.2.1,c.2.2.1,ZfQ,false,false,false,false,0,0) c.1 l] else ev)++[Zfg (4,0,[],ZfQ,false,false,false,false,0,0) c.1 l]
 else bif moved then e1++[(5,0,[],ZfQ,false,false,false,false,cell)] else e1
def evC (cp:List TC) (Zab:TC) (c:CORT) (after:CORT) (l:LINT) (d:Int) (moved:Bool):List TC:=
 let c1:=bif (finS c l d).2 then cp++[(finS c l d).1] else cp
 bif l.2.2.1 then (bif Zdq c then cp++[Zpp Zab cp] else cp)++[after.1]
 else bif moved then c1++[Zpp Zab cp] else c1
abbrev STT:=SYST×List PINT×List ITMT×List EVTT×List TC
def nowS (s:SYST) (i:INPT):Int:=bif i.2.2.1 then 10 else Zae s.1
def ZcP (b:BRDT) (Zab:TC) (st:STT) (i:INPT):STT:=
 let k:=ZbJ b st.1 i
 (k.1,st.2.1++[k.2.1],Zfx st.2.2.1 st.1.1 (ZaB st.1.1 (nowS st.1 i) k.2.2.2.1) (nowS st.1 i),
  evE st.2.2.2.1 st.1.1 k.2.2.1 k.2.2.2.1 k.2.2.2.2.1 k.2.2.2.2.2,evC st.2.2.2.2 Zab st.1.1 k.1.1 k.2.2.1 k.2.2.2.1 k.2.2.2.2.2)
structure RunOk (b:BRDT) (st:STT) (n:Nat):Prop where
 g:smG b.2.1=true
 m:st.1.2.1.length<=100000+2*n
 o:st.1.2.2.2.2.2.length<=n
 k:st.1.1.2.2.1.length<=n
 t:st.2.1.length<=n
 it:st.2.2.1.length<=n
 ev:st.2.2.2.1.length<=2*n
 cp:st.2.2.2.2.length<=2*n
 ne:st.2.2.1=[]->Zae st.1.1=1
theorem ZTq (c:CORT) (t d:Int) (h:c.2.2.1.length<=1000000):ZeW c t d=true/\ZhT c t d=rdS c t d:=by
 have hms:=mst
 have h1:Nat.ble (List.length c.2.2.1) most=true:=Zav (by omega)
 have h2:∀y:Int,Nat.ble (List.length (c.2.2.1++[y])) most=true:=λy=>Zav (by simp;omega)
 have hv:(ZiJ c t d).val=some (rdS c t d):=by
  unfold ZiJ rdS Zdo
  simp only[RT.val,h1,h2,List.nil_append,Bool.or_true,cond_true]
  cases t !=3<;>rfl
 exact⟨by simp only[ZeW,hv];rfl,by simp only[ZhT,hv,getO]⟩
theorem ZXk (c:CORT) (l:LINT) (d:Int) (h:c.2.2.1.length<=1000000):ZgO c l d=true/\Zij c l d=finS c l d:=by
 have h1:=ZTq c c.2.2.2.2.1 d h
 have hv:(ZeN c l d).val=some (finS c l d):=by
  unfold ZeN finS
  simp only[RT.val,h1.1,h1.2,cond_true]
  cases l.2.2.1
  ·cases Zj1 c.2.2.2.2.1 (rdS c c.2.2.2.2.1 d).1
   ·rfl
   ·cases (Zl (Zm c.1 l) c.2.1 (rdS c c.2.2.2.2.1 d).2).2<;>rfl
  ·rfl
 exact⟨by simp only[ZgO,hv];rfl,by simp only[Zij,hv,getO]⟩
theorem ZLF (c:CORT) (t d:Int) (h:c.2.2.1.length<=1000000):Zsd c t d=true/\ZEv c t d=ZeF c t d:=by
 have hms:=mst
 have h1:Nat.ble (List.length c.2.2.1) most=true:=Zav (by omega)
 have h2:∀y:Int,Nat.ble (List.length (c.2.2.1++[y])) most=true:=λy=>Zav (by simp;omega)
 have hv:(Zl7 c t d).val=some (ZeF c t d):=by
  unfold Zl7 ZeF
  simp only[RT.val,h1,h2,List.nil_append,Bool.or_true,cond_true]
 exact⟨by simp only[Zsd,hv];rfl,by simp only[ZEv,hv,getO]⟩
theorem ZHn (Zab:TC) (l:List TC) (h:l.length<=1000000):
  (!decide (iN l.length>0)||Zf (IntKind.wrap .i64 (iN l.length-1)) l.length)=true/\R.sel Zx (decide (iN l.length>0)) (R.get Zx l (IntKind.wrap .i64 (iN l.length-1))) Zab=Zpp Zab l:=by
 rcases List.eq_nil_or_concat l with rfl|⟨l',y,rfl⟩
 ·exact⟨rfl,by rw[R.sel_eq];rfl⟩
 ·simp only[List.concat_eq_append,List.length_append,List.length_singleton] at h|-
  have w:=Zwu l' y (by omega)
  have d:decide (iN (l'.length+1)>0)=true:=decide_eq_true (by simp only[iN];omega)
  simp only[List.length_append,List.length_singleton] at w
  rw[w,d,R.sel_eq]
  have:=ZFf l' y
  simp only[List.length_append,List.length_singleton] at this
  rw[this]
  exact⟨rfl,by simp only[cond_true,Zpp];rw[show R.get Zx (l'++[y]) (l'.length:Int)=y from ZHv (r:=Zx) l' y];simp⟩
theorem ZNm (b:BRDT) (l:List INPT) (i:Nat) (r0:RUNT) (s0:SYST) (Zab:TC) (st:STT) (n:Nat) (h:RunOk b st n) (hi:i<l.length) (hl:l.length<=100000) (hn:n<=200000):
  (Zfh (l,(l.length:Int),(i:Int),b,r0,st.1,s0,Zab,st.2.1,st.2.2.1,st.2.2.2.1,st.2.2.2.2,())).val=
   some (Go1.cont (l,(l.length:Int),((i+1:Nat):Int),b,r0,(ZcP b Zab st (R.get Zdp l (i:Int))).1,s0,Zab,(ZcP b Zab st (R.get Zdp l (i:Int))).2.1,(ZcP b Zab st (R.get Zdp l (i:Int))).2.2.1,
    (ZcP b Zab st (R.get Zdp l (i:Int))).2.2.2.1,(ZcP b Zab st (R.get Zdp l (i:Int))).2.2.2.2,())):=by
 have hms:=mst
 obtain⟨s,tr,it,ev,cp⟩:=st
 obtain⟨g,m,o,k,t,hit,hev,hcp,ne⟩:=h
 simp only at g m o k t hit hev hcp ne
 have d:decide ((i:Int)<(l.length:Int))=true:=decide_eq_true (by omega)
 have hin:Zf (i:Int) l.length=true:=ZI.2 ⟨by omega,by omega⟩
 have w:IntKind.wrap .i64 ((i:Int)+1)=((i+1:Nat):Int):=by rw[wrap_i64 _ (by omega) (by omega)];omega
 obtain⟨q,hq⟩:∃q,R.get Zdp l (i:Int)=q:=⟨_,rfl⟩
 rw[hq]
 have hc:=ZLC b s q g (by omega) (by omega) (by omega)
 have hf:=ZXk s.1 (ZbJ b s q).2.2.1 (ZbJ b s q).2.2.2.1 (by omega)
 have hb:=ZLF s.1 (Zae s.1) (ZbJ b s q).2.2.2.1 (by omega)
 have hlc:=ZHn Zab cp (by omega)
 have htr:∀x:PINT,Nat.ble (tr++[x]).length most=true:=λx=>Zav (by simp;omega)
 have he1:∀x:EVTT,Nat.ble (ev++[x]).length most=true:=λx=>Zav (by simp;omega)
 have he2:∀(c:Bool) (x y:EVTT),Nat.ble ((bif c then ev++[x] else ev)++[y]).length most=true:=λc x y=>Zav (by cases c<;>simp<;>omega)
 have hc1:∀x:TC,Nat.ble (cp++[x]).length most=true:=λx=>Zav (by simp;omega)
 have hc2:∀(c:Bool) (x y:TC),Nat.ble ((bif c then cp++[x] else cp)++[y]).length most=true:=λc x y=>Zav (by cases c<;>simp<;>omega)
 have hg:Nat.ble (List.length s.1.2.2.1) most=true:=Zav (by omega)
 obtain⟨T,hT⟩:∃T,(bif q.2.2.1 then (10:Int) else Zae s.1)=T:=⟨_,rfl⟩
 have hT':nowS s q=T:=hT
 rcases List.eq_nil_or_concat it with rfl|⟨it',y,rfl⟩
 ·have hTT:T=1\/T=10:=by
   rw[<-hT,ne rfl]
   cases q.2.2.1
   ·exact .inl rfl
   ·exact .inr rfl
  have w0:IntKind.wrap .i64 (iN ([]:List ITMT).length-1)= -1:=by decide
  have w1:decide ((-1:Int)>=0)=false:=by decide
  have w2:Zf (-1) ([]:List ITMT).length=false:=by decide
  have hi1:∀x:ITMT,Nat.ble [x].length most=true:=λx=>Zav (by simp;omega)
  unfold Zfh
  rcases hTT with rfl|rfl
  ·have e1:((1:Int)==1)=true:=rfl
   have e8:((1:Int)==8)=false:=rfl
   have e9:((1:Int)==9)=false:=rfl
   have e10:((1:Int)==10)=false:=rfl
   have e7:((1:Int)==7)=false:=rfl
   have n1:((1:Int) !=1)=false:=rfl
   simp only[RT.val,d,hin,w,hq,hT,hc.1,hc.2,hf.1,hf.2,hb.1,hb.2,hlc.1,hlc.2,htr,hi1,he1,he2,hc1,hc2,hg,w0,w1,w2,e1,e8,e9,e10,e7,n1,List.nil_append,Zec,ZcD,Bool.or_true,Bool.true_or,Bool.not_true,Bool.false_or,Bool.or_false,Bool.not_false,Bool.or_self,Bool.false_and,Bool.true_and,Bool.and_false,cond_true,cond_false]
   unfold ZcP
   rw[hT']
   simp only[Zfx,Zlb,cycN,e1,e8,e9,e10,e7,n1,cond_true,cond_false,List.nil_append]
   rfl
  ·have e1:((10:Int)==1)=false:=rfl
   have e8:((10:Int)==8)=false:=rfl
   have e9:((10:Int)==9)=false:=rfl
   have e10:((10:Int)==10)=true:=rfl
   have e7:((10:Int)==7)=false:=rfl
   have n1:((4:Int) !=1)=true:=rfl
   simp only[RT.val,d,hin,w,hq,hT,hc.1,hc.2,hf.1,hf.2,hb.1,hb.2,hlc.1,hlc.2,htr,hi1,he1,he2,hc1,hc2,hg,w0,w1,w2,e1,e8,e9,e10,e7,n1,List.nil_append,Zec,ZcD,Bool.or_true,Bool.true_or,Bool.not_true,Bool.false_or,Bool.or_false,Bool.not_false,Bool.or_self,Bool.false_and,Bool.true_and,Bool.and_false,cond_true,cond_false]
   unfold ZcP
   rw[hT']
   simp only[Zfx,Zlb,cycN,Zy7,List.getLast?_nil,e1,e8,e9,e10,e7,n1,cond_true,cond_false,List.nil_append]
   rfl
 ·simp only[List.concat_eq_append] at hit|-
  have hlen:it'.length<=1000000:=by simp at hit;omega
  have w0:=Zwu it' y hlen
  have w1:decide ((it'.length:Int)>=0)=true:=decide_eq_true (by omega)
  have w2:=λz:ITMT=>ZFf it' z
  have w3:=λz:ITMT=>ZHv (r:=Zhp) it' z
  have w4:=λz:ITMT=>ZE9 it' y z
  have w5:=λz z2:ITMT=>ZE9 it' z z2
  have hi1:∀x:ITMT,Nat.ble (it'++[y]++[x]).length most=true:=λx=>Zav (by simp at hit|-;omega)
  have hj:∀f:ITMT->ITMT,ZeY (it'++[y]) f=it'++[f y]:=Zct it' y
  unfold Zfh
  simp only[RT.val,d,hin,w,hq,hT,hc.1,hc.2,hf.1,hf.2,hb.1,hb.2,hlc.1,hlc.2,htr,hi1,he1,he2,hc1,hc2,hg,w0,w1,w2,w3,w4,w5,List.nil_append,Zec,ZcD,Bool.or_true,Bool.true_or,Bool.not_true,Bool.false_or,Bool.or_false,Bool.not_false,Bool.or_self,Bool.false_and,Bool.true_and,Bool.and_false,cond_true,cond_false]
  unfold ZcP
  rw[hT']
  simp only[Zfx,Zlb,cycN,Zy7,List.getLast?_concat,hj,ZM9,ZZr]
  cases T==8<;>cases T==9<;>cases T==10<;>rfl
theorem ZK2 (c:CORT) (l:LINT) (d:Int):(Zaa c l d).2.2.1.length<=c.2.2.1.length+1:=by
 have he:∀(c:TC) (s:Int) (g:List Int) (h:Bool) (l:LINT),(endX c s g h l).2.2.1.length<=g.length:=by
  intro c s g h l
  unfold endX
  cases (Zl c s g).2
  ·exact Nat.zero_le _
  ·exact Nat.le_refl _
 unfold Zaa
 dsimp only
 cases l.2.2.1
 ·cases ZaD c.2.2.2.2.1==1
  ·cases ZaD c.2.2.2.2.1==2||ZaD c.2.2.2.2.1==7
   ·cases ZaD c.2.2.2.2.1==8
    ·cases ZaD c.2.2.2.2.1==9
     ·cases ZaD c.2.2.2.2.1==3
      ·cases decide (ZaD c.2.2.2.2.1<c.2.2.2.1.2.2.2)&& !(ZaD c.2.2.2.2.1==6)
       ·exact Nat.le_trans (he _ _ _ _ _) (Nat.le_succ _)
       ·exact Nat.le_succ _
      ·cases le3 (Zdo (Zm c.1 l) c.2.2.2.1 d).2.2.2
       ·simp only[cond_true,cond_false,List.length_append,List.length_singleton];omega
       ·exact Nat.le_trans (he _ _ _ _ _) (by simp)
     ·cases ZfU (Zm c.1 l) l==0
      ·exact Nat.zero_le _
      ·exact Nat.le_succ _
    ·exact Nat.le_succ _
   ·cases l.1|| !Zam c.2.2.2.1.1<;>exact Nat.le_succ _
  ·exact Nat.le_succ _
 ·exact Nat.zero_le _
theorem ZrQ (b:BRDT) (s:SYST) (i:INPT):(ZbJ b s i).1.1=Zaa s.1 (ZdB b (Z8 b s i) i) (busS b (Z8 b s i) i).2:=by
 rw[(Zzs b s i).1]
 show Zaa (busS b (Z8 b s i) i).1.1 _ _=_
 rw[(ZlU b (Z8 b s i) i).1]
 rfl
theorem ZKv {α:Type} (l:List α) (f:α->α):(ZeY l f).length=l.length:=by
 rcases List.eq_nil_or_concat l with rfl|⟨l',y,rfl⟩
 ·rfl
 ·rw[List.concat_eq_append,Zct];simp
theorem ZRp (l:List ITMT) (k:Int) (c:CORT) (n:ITMT):(Zy7 l k c n).length<=l.length+1/\Zy7 l k c n≠[]:=by
 unfold Zy7
 rcases List.eq_nil_or_concat l with rfl|⟨l',y,rfl⟩
 ·exact⟨by simp,by simp⟩
 ·rw[List.concat_eq_append,List.getLast?_concat]
  dsimp only
  cases ZM9 y k c
  ·exact⟨by simp,by simp⟩
  ·simp only[cond_true];rw[Zct];exact⟨by simp,by simp⟩
theorem ZRq (l:List ITMT) (c:CORT) (x:TY) (t:Int) (h:l=[]->t=1\/t=10):(Zfx l c x t).length<=l.length+1/\Zfx l c x t≠[]:=by
 have hj:=ZRp l (Zlb t) c (Zlb t,cycN c t x,0,1,ZUJ c,sodC c)
 have ho:∀f:ITMT->ITMT,l≠[]->(ZeY l f).length<=l.length+1/\ZeY l f≠[]:=λf hl=>by
  have:=ZKv l f
  refine⟨by omega,λe=>hl ?_⟩
  rw[e] at this
  exact List.length_eq_zero_iff.1 this.symm
 unfold Zfx
 cases hk:Zlb t !=1
 ·cases h1:t==1
  ·have hl:l≠[]:=λe=>by
    rcases h e with rfl|rfl
    ·simp at h1
    ·simp[Zlb] at hk
   cases t==7
   ·exact ho _ hl
   ·exact ho _ hl
  ·exact⟨by simp,by simp⟩
 ·exact hj
theorem ZZn (s:SYST) (i:INPT) (h:Zae s.1=1):nowS s i=1\/nowS s i=10:=by
 unfold nowS
 rw[h]
 cases i.2.2.1
 ·exact .inl rfl
 ·exact .inr rfl
theorem ZZT (ev:List EVTT) (c:CORT) (l:LINT) (d:Int) (cell:Cell) (moved:Bool):(evE ev c l d cell moved).length<=ev.length+2:=by
 unfold evE
 dsimp only
 cases l.2.2.1
 ·cases (finS c l d).2<;>cases moved<;>simp
 ·cases Zdq c<;>simp
theorem ZZU (cp:List TC) (Zab:TC) (c after:CORT) (l:LINT) (d:Int) (moved:Bool):(evC cp Zab c after l d moved).length<=cp.length+2:=by
 unfold evC
 dsimp only
 cases l.2.2.1
 ·cases (finS c l d).2<;>cases moved<;>simp
 ·cases Zdq c<;>simp
theorem ZFd (b:BRDT) (Zab:TC) (st:STT) (i:INPT) (n:Nat) (h:RunOk b st n):RunOk b (ZcP b Zab st i) (n+1):=by
 have hc:=Zzs b st.1 i
 have hi:=ZRq st.2.2.1 st.1.1 (ZaB st.1.1 (nowS st.1 i) (ZbJ b st.1 i).2.2.2.1) (nowS st.1 i) (λe=>ZZn st.1 i (h.ne e))
 refine⟨h.g,?_,?_,?_,?_,?_,?_,?_,?_⟩
 ·have:=h.m;show (ZbJ b st.1 i).1.2.1.length<=_;omega
 ·have:=h.o;show (ZbJ b st.1 i).1.2.2.2.2.2.length<=_;omega
 ·have:=h.k;show (ZbJ b st.1 i).1.1.2.2.1.length<=_
  rw[ZrQ]
  have:=ZK2 st.1.1 (ZdB b (Z8 b st.1 i) i) (busS b (Z8 b st.1 i) i).2
  omega
 ·have:=h.t;show (st.2.1++[_]).length<=_;simp;omega
 ·have:=h.it;exact Nat.le_trans hi.1 (by omega)
 ·have:=h.ev;exact Nat.le_trans (ZZT _ _ _ _ _ _) (by omega)
 ·have:=h.cp;exact Nat.le_trans (ZZU _ _ _ _ _ _ _) (by omega)
 ·intro e;exact absurd e hi.2
def Zbk (b:BRDT) (Zab:TC) (st:STT) (l:List INPT):STT:=l.foldl (ZcP b Zab) st
theorem ZpG (b:BRDT) (Zab:TC):∀(l:List INPT) (st:STT) (n:Nat),RunOk b st n->RunOk b (Zbk b Zab st l) (n+l.length)
 |[],st,n,h=>h
 |i::l,st,n,h=>by
  have:=ZpG b Zab l (ZcP b Zab st i) (n+1) (ZFd b Zab st i n h)
  rw[show n+(i::l).length=n+1+l.length by simp;omega]
  exact this
theorem ZMS {α:Type} (l:List α) (d:α) (i:Nat) (h:i<l.length):l.take (i+1)=l.take i++[l.getD i d]:=by
 rw[List.take_add_one,List.getD_eq_getElem?_getD,List.getElem?_eq_getElem h];rfl
theorem ZTa (b:BRDT) (l:List INPT) (r0:RUNT) (s0:SYST) (Zab:TC) (st:STT) (h:RunOk b st 0) (hl:l.length<=70000):
  runF false Zfh (λ_=>1000000000000) (l,(l.length:Int),0,b,r0,st.1,s0,Zab,st.2.1,st.2.2.1,st.2.2.2.1,st.2.2.2.2,())=
   some (false,(l,(l.length:Int),(l.length:Int),b,r0,(Zbk b Zab st l).1,s0,Zab,(Zbk b Zab st l).2.1,(Zbk b Zab st l).2.2.1,(Zbk b Zab st l).2.2.2.1,(Zbk b Zab st l).2.2.2.2,())):=by
 obtain⟨r,hr,h1⟩:=ZM (fl:=false) (t:=Zfh) (fuel:=λ_=>1000000000000)
  (λa=>∃i:Nat,i<=l.length/\a=(l,(l.length:Int),(i:Int),b,r0,(Zbk b Zab st (l.take i)).1,s0,Zab,(Zbk b Zab st (l.take i)).2.1,(Zbk b Zab st (l.take i)).2.2.1,(Zbk b Zab st (l.take i)).2.2.2.1,(Zbk b Zab st (l.take i)).2.2.2.2,()))
  (λa=>Int.toNat (a.2.1-a.2.2.1)) (λr=>r=(false,(l,(l.length:Int),(l.length:Int),b,r0,(Zbk b Zab st l).1,s0,Zab,(Zbk b Zab st l).2.1,(Zbk b Zab st l).2.2.1,(Zbk b Zab st l).2.2.2.1,(Zbk b Zab st l).2.2.2.2,())))
  (by
   rintro a ⟨i,hi,rfl⟩
   by_cases hlt:i<l.length
   ·left
    have hk:=ZpG b Zab (l.take i) st 0 h
    have hv:=ZNm b l i r0 s0 Zab (Zbk b Zab st (l.take i)) _ hk hlt (by omega) (by simp;omega)
    refine⟨_,hv,⟨i+1,hlt,?_⟩,by simp only;omega⟩
    have e:Zbk b Zab st (l.take (i+1))=ZcP b Zab (Zbk b Zab st (l.take i)) (R.get Zdp l (i:Int)):=by
     rw[ZMS l Zdp.dflt i hlt]
     simp only[Zbk,List.foldl_append,List.foldl_cons,List.foldl_nil]
     rfl
    rw[e]
   ·right;left
    have e:i=l.length:=by omega
    subst e
    have d:decide ((l.length:Int)<(l.length:Int))=false:=decide_eq_false (by omega)
    rw[List.take_length]
    exact⟨_,by simp only[Zfh,RT.val,d,cond_false],rfl⟩)
  (l,(l.length:Int),0,b,r0,st.1,s0,Zab,st.2.1,st.2.2.1,st.2.2.2.1,st.2.2.2.2,()) ⟨0,Nat.zero_le _,rfl⟩ (by simp only;omega)
 rw[h1] at hr
 exact hr
def Zce (b:BRDT):STT:=((wNew b).1,[],[],[],[])
def Z7 (b:BRDT):TC:=(wNew b).1.1.1
def ZzD:SYST:=((ZHO,0,[],(0,0,0,0),0,false),[],(0,false,false,false,false,0,0,false,false,false,false,false,0,0,0,0,0,0,0,false),(0,0,0),0,[])
theorem Zwy (b:BRDT) (hg:smG b.2.1=true) (hm:smC b.2.2.2.2.2.2=true):Zr1 b=true:=by
 unfold Zr1 ZrZ
 simp only[RT.val,hg,hm,Bool.or_true,cond_true]
 cases b.1 !=1&&b.1 !=2
 ·cases Zfj b.2.1 !=0
  ·cases decide (b.2.2.1<0)||(decide (b.2.2.1>100)|| !vldB b.2.2.2.2.2.2)<;>rfl
  ·rfl
 ·rfl
def newS (b:BRDT):SYST:=((((newX b.1).1.1,(0,0,0,0,0,0,0,(false,false,false,false,false,false,false),0,0),false,false,false,(newX b.1).1.2.2.2.2.2.1,false,false,false,false,false,false,false),0,[],(1,0,0,4),1,false),
 normX b.2.2.2.2.2.2,(0,false,false,false,false,0,0,false,false,false,false,false,0,0,0,0,7,0,0,false),(0,0,0),0,[])
theorem ZzJ (b:BRDT) (hg:smG b.2.1=true) (hm:b.2.2.2.2.2.2.length<=100000):ZSx b=true/\(wNew b).2=ZdY b/\((wNew b).2=0->RunOk b (Zce b) 0/\(wNew b).1.2.1=normX b.2.2.2.2.2.2):=by
 have hc:=smCb (l:=b.2.2.2.2.2.2) (by omega)
 have hv:(ZzK b).val=some (bif ZdY b !=0 then (ZzD,ZdY b) else ((newS b),0)):=by
  unfold ZzK
  simp only[RT.val,Zwy b hg hc,hc,cond_true]
  cases ZdY b !=0<;>rfl
 refine⟨by simp only[ZSx,hv];rfl,?_,?_⟩
 ·simp only[wNew,hv,getO]
  cases hx:ZdY b !=0
  ·simp at hx;exact hx.symm
  ·rfl
 ·intro h0
  have hx:(ZdY b !=0)=false:=by
   cases hx:ZdY b !=0
   ·rfl
   ·simp only[wNew,hv,getO,hx,cond_true] at h0
    rw[h0] at hx;simp at hx
  have e:wNew b=((newS b),0):=by
   simp only[wNew,hv,getO,hx,cond_false]
  have hn:=Zdj b.2.2.2.2.2.2
  unfold Zce
  rw[e]
  exact⟨⟨hg,by show (normX b.2.2.2.2.2.2).length<=_;omega,Nat.le_refl _,Nat.le_refl _,Nat.le_refl _,Nat.le_refl _,Nat.le_refl _,Nat.le_refl _,λ_=>rfl⟩,rfl⟩
def endS (Zab:TC) (st:STT):RUNT:=
 (st.2.1,st.2.2.1,bif Zdq st.1.1 then st.2.2.2.1++[(7,st.1.1.2.1,st.1.1.2.2.1,ZfQ,false,false,false,false,0,0)] else st.2.2.2.1,bif Zdq st.1.1 then st.2.2.2.2++[Zpp Zab st.2.2.2.2] else st.2.2.2.2,st.1)
def ZcM (b:BRDT) (l:List INPT):RUNT×Int:=bif (wNew b).2 !=0 then (([],[],[],[],ZzD),(wNew b).2) else (endS (Z7 b) (Zbk b (Z7 b) (Zce b) l),0)
theorem ZXh (b:BRDT) (l:List Int) (hg:smG b.2.1=true) (hm:b.2.2.2.2.2.2.length<=100000) (hl:l.length<=4000):ZSw b l=true/\wRun b l=ZcM b (Zbg l):=by
 have hms:=mst
 have hd:=Zqp l hl
 have hn:=ZzJ b hg hm
 have hv:(ZLm b l).val=some (ZcM b (Zbg l)):=by
  unfold ZLm ZcM
  cases hx:(wNew b).2 !=0
  ·have h0:(wNew b).2=0:=by simpa using hx
   have hi:=(hn.2.2 h0).1
   have hf:=ZpG b (Z7 b) (Zbg l) (Zce b) 0 hi
   have hr:=ZTa b (Zbg l) ([],[],[],[],ZzD) ZzD (Z7 b) (Zce b) hi (by omega)
   have hr':runF false Zfh (λ_=>1000000000000) (Zbg l,iN (Zbg l).length,0,b,([],[],[],[],((0,(0,0,0,0,0,0,0,(false,false,false,false,false,false,false),0,0),false,false,false,0,false,false,false,false,false,false,false),0,[],(0,0,0,0),0,false),[],(0,false,false,false,false,0,0,false,false,false,false,false,0,0,0,0,0,0,0,false),(0,0,0),0,[]),(wNew b).1,(((0,(0,0,0,0,0,0,0,(false,false,false,false,false,false,false),0,0),false,false,false,0,false,false,false,false,false,false,false),0,[],(0,0,0,0),0,false),[],(0,false,false,false,false,0,0,false,false,false,false,false,0,0,0,0,0,0,0,false),(0,0,0),0,[]),(wNew b).1.1.1,[],[],[],[],())=some (false,(Zbg l,((Zbg l).length:Int),((Zbg l).length:Int),b,([],[],[],[],ZzD),(Zbk b (Z7 b) (Zce b) (Zbg l)).1,ZzD,Z7 b,(Zbk b (Z7 b) (Zce b) (Zbg l)).2.1,(Zbk b (Z7 b) (Zce b) (Zbg l)).2.2.1,(Zbk b (Z7 b) (Zce b) (Zbg l)).2.2.2.1,(Zbk b (Z7 b) (Zce b) (Zbg l)).2.2.2.2,())):=hr
   simp only[RT.val,hn.1,hd.1,hr',hx,okB,getO,cond_true,cond_false]
   obtain⟨st,hst⟩:∃st,Zbk b (Z7 b) (Zce b) (Zbg l)=st:=⟨_,rfl⟩
   rw[hst] at hf|-
   have hk:=hf.k
   have he:=hf.ev
   have hc:=hf.cp
   have hdl:=hd.2
   have hlc:=ZHn (Z7 b) st.2.2.2.2 (by omega)
   have b1:Nat.ble (List.length st.1.1.2.2.1) most=true:=Zav (by omega)
   have b2:∀x:EVTT,Nat.ble (List.length (st.2.2.2.1++[x])) most=true:=λx=>Zav (by simp;omega)
   have b3:∀x:TC,Nat.ble (List.length (st.2.2.2.2++[x])) most=true:=λx=>Zav (by simp;omega)
   simp only[hlc.1,hlc.2,b1,b2,b3,List.nil_append,Bool.or_true,Bool.not_true,Bool.false_or,cond_true]
   unfold endS
   cases Zdq st.1.1<;>rfl
  ·simp only[RT.val,hn.1,hx,cond_true]
   rfl
 exact⟨by simp only[ZSw,hv];rfl,by simp only[wRun,hv,getO]⟩
end
end Go.Proofs.YtghoimllhpjkjaaGreat
open Go.Proofs.Tryz (prog)
open Go Go.S3 Go.Proofs
namespace Go.Proofs.YtghoimllhpjkjaaGreat
noncomputable section
abbrev Zwo:List Sh:=[Sh.agg Zx,Sh.agg Zbh]
abbrev Zwp:Rs:=Rs.one (Sh.agg Zx)
def ZD8 (c:TC) (e:EVTT):RT TC:=
 .br (bif e.1==1 then e.1==1 else bif e.1==2 then e.1==2 else e.1==3) (.leaf (finX ((Zu c e.2.1).1,(Zu c e.2.1).2.1,(Zu c e.2.1).2.2.1,(Zu c e.2.1).2.2.2.1,(Zu c e.2.1).2.2.2.2.1,(Zu c e.2.1).2.2.2.2.2.1,e.2.2.2.2.2.1,e.2.2.2.2.1,e.2.2.2.2.2.2.2.1,e.2.2.2.2.2.2.1,(Zu c e.2.1).2.2.2.2.2.2.2.2.2.2) e.2.1 e.2.2.1 e.2.2.2.1)) (.br (e.1==4) (.leaf (((ZO c).1,((ZO c).2.1.1,(ZO c).2.1.2.1,(ZO c).2.1.2.2.1,(ZO c).2.1.2.2.2.1,(ZO c).2.1.2.2.2.2.1,(ZO c).2.1.2.2.2.2.2.1,(ZO c).2.1.2.2.2.2.2.2.1,(ZO c).2.1.2.2.2.2.2.2.2.1,(ZO c).2.1.2.2.2.2.2.2.2.2.1,0),false,false,false,(ZO c).2.2.2.2.2.1,false,false,false,false,false,false,false))) (.leaf (c)))
def ZHM (c:TC) (e:EVTT):TC:=(ZD8 c e).val
def ZD9:Entry:=Zg Zwo Zwp (λ_=>none) (λa=>ZHM a.1 a.2)
theorem Zp2:Za prog 48 ZD9:=
 pureQ 34359738527 [(77,ZGA),(110,Zi4),(111,Z0Z)] [] Zwo Zwp ⟨ZJz,ZhX,ZY6,Tv⟩ Tryz.func48 Tryz.call48 trivial (t:=λa=>ZD8 a.1 a.2)
abbrev Zp1:List Sh:=[Sh.agg Zx,Sh.agg Zbh]
abbrev ZjC:Rs:=Rs.one (Sh.one (R.sl (RY)))
def ZLa:LS:={n:=67,slots:=[(2,.fix (A.loc 0 0)),(3,.fix (A.loc 1 0)),(5,.tip 0),(23,.code (Sh.one (R.sl (R.int u8)))),(24,.code (Sh.one (R.int i64))),(25,.code (Sh.one (R.int i64)))],boxes:=[[.many Zx],[.many Zbh]],stgs:=[⟨(RY),41,true⟩]}
def ZdW (a:List Int×Int×Int×TC×EVTT×List TY×PUnit):RT (Option (Go1 (List Int×Int×Int×TC×EVTT×List TY×PUnit))):=
 let x1:=decide (0<=0)&&decide (0<=a.2.2.1)&&(decide (a.2.2.1=0)||decide (a.2.2.1<=iN (List.length a.2.2.2.2.1.2.2.1)))
 let x2:=Zl a.2.2.2.1 a.2.2.2.2.1.2.1 (subL a.2.2.2.2.1.2.2.1 0 a.2.2.1)
 let x3:= !x2.2
 let x4:=x2.1
 let x5:=x4.1
 let x6:=x4.2
 let x7:=x6.2
 let x8:List TY:=a.2.2.2.2.2.1++[(x5,x6.1,bif ZcQ x5 then R.get (R.int u8) a.1 a.2.2.1 else x7.1,bif x5==1||x5==8 then ZfO a.2.2.2.1.1 (R.get (R.int u8) a.1 a.2.2.1) else x7.2)]
 .br (decide (a.2.2.1<a.2.1)) (.br (!Zf a.2.2.1 (List.length a.1)||(!x1||(x3||Nat.ble (List.length x8) most))) (.br (!Zf a.2.2.1 (List.length a.1)||x1) (.br (Zf a.2.2.1 (List.length a.1)) (.br (x3) (.leaf (some (Go1.brk (a.1,a.2.1,a.2.2.1,a.2.2.2.1,a.2.2.2.2.1,a.2.2.2.2.2.1,PUnit.unit)))) (.leaf (some (Go1.cont (a.1,a.2.1,i64.wrap (a.2.2.1+1),a.2.2.2.1,a.2.2.2.2.1,x8,PUnit.unit))))) (.leaf none)) (.leaf none)) (.leaf none)) (.leaf (some (Go1.brk (a.1,a.2.1,a.2.2.1,a.2.2.2.1,a.2.2.2.2.1,a.2.2.2.2.2.1,PUnit.unit))))
def ZrV:Ora:=Za5 true ZLa ZdW (λa=>1000000000000)
theorem Zzy:ZaJ (envX prog [(110,Zi4),(113,ZPT),(114,ZuA),(115,ZuU)] [] 5119 8) (.block 1 (.loop (Z6 Tryz.f51.body 1))) ZrV:=
 loopP ⟨ZhX,ZGF,Zrt,Zrv,Tv⟩
def ZjB (c:TC) (e:EVTT):RT (Option (List TY)):=
 let x1:List Int×Int×Int×TC×EVTT×List TY×PUnit:=(e.2.2.1,iN (List.length e.2.2.1),0,Zu c e.2.1,e,[],())
 let x2:=runF true ZdW (λa=>1000000000000) x1
 let x3:=getO (false,x1) x2
 .br (bif e.1==1 then e.1==1 else bif e.1==2 then e.1==2 else bif e.1==3 then e.1==3 else bif e.1==6 then e.1==6 else e.1==7) (.br (okB x2) (.br x3.1 (.leaf none) (.leaf (some x3.2.2.2.2.2.2.1))) (.leaf none)) (.leaf (some ([])))
def ZD7 (c:TC) (e:EVTT):List TY:=getO ZjC.dflt (ZjB c e).val
def Zwn (c:TC) (e:EVTT):Bool:=okB (ZjB c e).val
def ZVj:Entry:=Zg Zp1 ZjC (λa=>some (Zwn a.1 a.2)) (λa=>ZD7 a.1 a.2)
theorem ZK9:Za prog 51 ZVj:=
 pureP 5119 [(110,Zi4),(113,ZPT),(114,ZuA),(115,ZuU)] [(1,ZrV)] Zp1 ZjC ⟨ZhX,ZGF,Zrt,Zrv,Tv⟩ Tryz.func51 Tryz.call51 ⟨Zzy,Tv⟩ (t:=λa=>ZjB a.1 a.2)
abbrev ZpZ:List Sh:=[Sh.agg Zx,Sh.one (R.sl Zbh)]
abbrev Zjy:Rs:=Rs.one (Sh.one (R.sl Zx))
def ZK6:LS:={n:=23,slots:=[(2,.fix (A.loc 0 0)),(5,.tip 0),(8,.code (Sh.one (R.sl Zbh))),(9,.code (Sh.one (R.int i64))),(10,.code (Sh.one (R.int i64)))],boxes:=[[.many Zx]],stgs:=[⟨Zx,38,true⟩]}
def Zhl (a:List EVTT×Int×Int×TC×List TC×PUnit):RT (Option (Go1 (List EVTT×Int×Int×TC×List TC×PUnit))):=
 let x1:=ZHM a.2.2.2.1 (R.get Zbh a.1 a.2.2.1)
 let x2:List TC:=a.2.2.2.2.1++[x1]
 .br (decide (a.2.2.1<a.2.1)) (.br (!Zf a.2.2.1 (List.length a.1)||Nat.ble (List.length x2) most) (.br (Zf a.2.2.1 (List.length a.1)) (.leaf (some (Go1.cont (a.1,a.2.1,i64.wrap (a.2.2.1+1),x1,x2,PUnit.unit)))) (.leaf none)) (.leaf none)) (.leaf (some (Go1.brk (a.1,a.2.1,a.2.2.1,a.2.2.2.1,a.2.2.2.2.1,PUnit.unit))))
def ZrT:Ora:=Za5 false ZK6 Zhl (λa=>1000000000000)
theorem Zzv:ZaJ (envX prog [(48,ZD9)] [] 255 8) (.block 0 (.loop (Z6 Tryz.f56.body 0))) ZrT:=
 loopP ⟨Zp2,Tv⟩
def Zjx (c:TC) (l:List EVTT):RT (Option (List TC)):=
 let x1:=runF false Zhl (λa=>1000000000000) (l,iN (List.length l),0,c,[],())
 .br (okB x1) (.leaf (some (getO (false,l,iN (List.length l),0,c,[],()) x1).2.2.2.2.2.1)) (.leaf none)
def ZD4 (c:TC) (l:List EVTT):List TC:=getO Zjy.dflt (Zjx c l).val
def Zwl (c:TC) (l:List EVTT):Bool:=okB (Zjx c l).val
def ZVh:Entry:=Zg ZpZ Zjy (λa=>some (Zwl a.1 a.2)) (λa=>ZD4 a.1 a.2)
theorem ZK5:Za prog 56 ZVh:=
 pureP 255 [(48,ZD9)] [(0,ZrT)] ZpZ Zjy ⟨Zp2,Tv⟩ Tryz.func56 Tryz.call56 ⟨Zzv,Tv⟩ (t:=λa=>Zjx a.1 a.2)
abbrev ZlY:List Sh:=[Sh.one (R.sl (RY)),Sh.one (R.sl (RY))]
abbrev Zid:Rs:=Rs.one (Sh.one R.bool)
def ZHQ:LS:={n:=26,slots:=[(0,.code (Sh.one (R.sl (RY)))),(1,.code (Sh.one (R.sl (RY)))),(4,.code (Sh.one R.bool)),(12,.code (Sh.one (R.int i64))),(13,.code (Sh.one (R.int i64)))],boxes:=[],stgs:=[]}
def ZeL (a:List TY×List TY×Bool×Int×Int×PUnit):RT (Option (Go1 (List TY×List TY×Bool×Int×Int×PUnit))):=
 let x1:= !Zf a.2.2.2.2.1 (List.length a.1)||Zf a.2.2.2.2.1 (List.length a.2.1)
 let x2:QT11:=R.get (RY) a.1 a.2.2.2.2.1
 let x3:QT11:=R.get (RY) a.2.1 a.2.2.2.2.1
 let x8:Int×Int×PUnit:=(a.2.2.2.1,a.2.2.2.2.1,PUnit.unit)
 .br (decide (a.2.2.2.2.1<a.2.2.2.1)) (.br (!x1||Zf a.2.2.2.2.1 (List.length a.1)) (.br (x1) (.br (!(R.eqf (R.pair (R.int i64) ZX3) x2 x3 true)) (.leaf (some (Go1.ret (a.1,a.2.1,false,x8)))) (.leaf (some (Go1.cont (a.1,a.2.1,a.2.2.1,a.2.2.2.1,i64.wrap (a.2.2.2.2.1+1),PUnit.unit))))) (.leaf none)) (.leaf none)) (.leaf (some (Go1.brk (a.1,a.2.1,a.2.2.1,x8))))
def Zqm:Ora:=Za5 true ZHQ ZeL (λa=>1000000000000)
theorem Zwz:ZaJ (envX prog [] [] 63 8) (.block 0 (.loop (Z6 Tryz.f50.body 0))) Zqm:=
 loopP trivial
def Zic (a:List TY) (b:List TY):RT (Option (Bool)):=
 let x1:=runF true ZeL (λa_1=>1000000000000) (a,b,false,iN (List.length a),0,())
 let x2:=getO (false,a,b,false,iN (List.length a),0,()) x1
 .br (iN (List.length a) !=iN (List.length b)) (.leaf (some (false))) (.br (okB x1) (.br x2.1 (.leaf (some x2.2.2.2.1)) (.leaf (some (true)))) (.leaf none))
def ZzH (a:List TY) (b:List TY):Bool:=getO Zid.dflt (Zic a b).val
def Zr4 (a:List TY) (b:List TY):Bool:=okB (Zic a b).val
def ZSu:Entry:=Zg ZlY Zid (λa=>some (Zr4 a.1 a.2)) (λa=>ZzH a.1 a.2)
theorem ZHP:Za prog 50 ZSu:=
 pureP 63 [] [(0,Zqm)] ZlY Zid trivial Tryz.func50 Tryz.call50 ⟨Zwz,Tv⟩ (t:=λa=>Zic a.1 a.2)
abbrev ZlZ:List Sh:=[Sh.one (R.sl Zx),Sh.one (R.sl Zx)]
abbrev Zig:Rs:=Rs.one (Sh.one R.bool)
def ZHS:LS:={n:=26,slots:=[(0,.code (Sh.one (R.sl Zx))),(1,.code (Sh.one (R.sl Zx))),(4,.code (Sh.one R.bool)),(12,.code (Sh.one (R.int i64))),(13,.code (Sh.one (R.int i64)))],boxes:=[],stgs:=[]}
def ZeM (a:List TC×List TC×Bool×Int×Int×PUnit):RT (Option (Go1 (List TC×List TC×Bool×Int×Int×PUnit))):=
 let x1:= !Zf a.2.2.2.2.1 (List.length a.1)||Zf a.2.2.2.2.1 (List.length a.2.1)
 let x2:TC:=R.get Zx a.1 a.2.2.2.2.1
 let x3:TC:=R.get Zx a.2.1 a.2.2.2.2.1
 let x56:Int×Int×PUnit:=(a.2.2.2.1,a.2.2.2.2.1,PUnit.unit)
 .br (decide (a.2.2.2.2.1<a.2.2.2.1)) (.br (!x1||Zf a.2.2.2.2.1 (List.length a.1)) (.br (x1) (.br (!(R.eqf Zx x2 x3 true)) (.leaf (some (Go1.ret (a.1,a.2.1,false,x56)))) (.leaf (some (Go1.cont (a.1,a.2.1,a.2.2.1,a.2.2.2.1,i64.wrap (a.2.2.2.2.1+1),PUnit.unit))))) (.leaf none)) (.leaf none)) (.leaf (some (Go1.brk (a.1,a.2.1,a.2.2.1,x56))))
def Zqn:Ora:=Za5 true ZHS ZeM (λa=>1000000000000)
theorem ZwA:ZaJ (envX prog [] [] 63 8) (.block 0 (.loop (Z6 Tryz.f55.body 0))) Zqn:=
 loopP trivial
def Zif (a:List TC) (b:List TC):RT (Option (Bool)):=
 let x1:=runF true ZeM (λa_1=>1000000000000) (a,b,false,iN (List.length a),0,())
 let x2:=getO (false,a,b,false,iN (List.length a),0,()) x1
 .br (iN (List.length a) !=iN (List.length b)) (.leaf (some (false))) (.br (okB x1) (.br x2.1 (.leaf (some x2.2.2.2.1)) (.leaf (some (true)))) (.leaf none))
def ZzI (a:List TC) (b:List TC):Bool:=getO Zig.dflt (Zif a b).val
def Zr5 (a:List TC) (b:List TC):Bool:=okB (Zif a b).val
def ZSv:Entry:=Zg ZlZ Zig (λa=>some (Zr5 a.1 a.2)) (λa=>ZzI a.1 a.2)
theorem ZHR:Za prog 55 ZSv:=
 pureP 63 [] [(0,Zqn)] ZlZ Zig trivial Tryz.func55 Tryz.call55 ⟨ZwA,Tv⟩ (t:=λa=>Zif a.1 a.2)
def Zqi (k:Int):Bool:=k==1||(k==2||k==3)
def ZGu (c:TC) (e:EVTT):TC:=(c.1,c.2.1,c.2.2.1,c.2.2.2.1,c.2.2.2.2.1,c.2.2.2.2.2.1,e.2.2.2.2.2.1,e.2.2.2.2.1,e.2.2.2.2.2.2.2.1,e.2.2.2.2.2.2.1,c.2.2.2.2.2.2.2.2.2.2)
def ZaZ (c:TC) (e:EVTT):TC:=bif Zqi e.1 then finX (ZGu (Zu c e.2.1) e) e.2.1 e.2.2.1 e.2.2.2.1 else bif e.1==4 then ZO c else c
theorem ZSm (c:TC) (e:EVTT):ZHM c e=ZaZ c e:=by
 unfold ZHM ZD8 ZaZ Zqi
 simp only[RT.val]
 cases e.1==1<;>cases e.1==2<;>cases e.1==3<;>cases e.1==4<;>rfl
def Zrp (c:TC) (x:TY) (b:Int):TY:=(x.1,x.2.1,bif ZcQ x.1 then b else x.2.2.1,bif x.1==1||x.1==8 then ZfO c.1 b else x.2.2.2)
def cyX (c:TC) (s:Int) (g:List Int):List Int->List TY
 |[]=>[]
 |b::r=>bif (Zl c s g).2 then Zrp c (Zl c s g).1 b::cyX c s (g++[b]) r else []
def cycE (k:Int):Bool:=Zqi k||(k==6||k==7)
def Za8 (c:TC) (e:EVTT):List TY:=bif cycE e.1 then cyX (Zu c e.2.1) e.2.1 [] e.2.2.1 else []
theorem ZVa (c:TC) (s:Int) (g:List Int) (b:Int) (r:List Int):cyX c s g (b::r)=bif (Zl c s g).2 then Zrp c (Zl c s g).1 b::cyX c s (g++[b]) r else []:=rfl
theorem ZZY (c:TC) (s:Int) (g:List Int):cyX c s g []=[]:=rfl
theorem ZW6 {α:Type} {b:Bool} {x y z:α} (h:b=true) (e:x=z:=by rfl):(bif b then x else y)=z:=by rw[h];exact e
theorem ZR3 (c:TC) (s:Int):∀(r g:List Int),(cyX c s g r).length<=r.length
 |[],g=>Nat.le_refl _
 |b::r,g=>by
  have:=ZR3 c s r (g++[b])
  unfold cyX
  cases (Zl c s g).2
  ·exact Nat.zero_le _
  ·simp only[cond_true,List.length_cons];omega
theorem ZMV (g:List Int) (i:Nat):subL g 0 (i:Int)=g.take i:=by simp[subL]
theorem ZU4 (g:List Int) (i:Nat) (h:i<g.length):g.drop i=R.get (R.int .u8) g (i:Int)::g.drop (i+1):=by
 rw[List.drop_eq_getElem_cons h]
 simp[R.get,List.getElem?_eq_getElem h]
theorem ZS0 (g:List Int) (i:Nat) (h:i<g.length):g.take (i+1)=g.take i++[R.get (R.int .u8) g (i:Int)]:=by
 rw[List.take_add_one,List.getElem?_eq_getElem h]
 simp[R.get,List.getElem?_eq_getElem h]
theorem cyc_b (c:TC) (e:EVTT) (h:e.2.2.1.length<=1000000):Zwn c e=true/\ZD7 c e=Za8 c e:=by
 have hms:=mst
 obtain⟨r,hr,h0,h1⟩:=ZM (fl:=true) (t:=ZdW) (fuel:=λ_=>1000000000000)
  (λa=>∃(i:Nat) (o:List TY),i<=e.2.2.1.length/\o.length<=i/\o++cyX (Zu c e.2.1) e.2.1 (e.2.2.1.take i) (e.2.2.1.drop i)=cyX (Zu c e.2.1) e.2.1 [] e.2.2.1/\a=(e.2.2.1,(e.2.2.1.length:Int),(i:Int),Zu c e.2.1,e,o,()))
  (λa=>Int.toNat (a.2.1-a.2.2.1)) (λr=>r.1=false/\r.2.2.2.2.2.2.1=cyX (Zu c e.2.1) e.2.1 [] e.2.2.1)
  (by
   rintro a ⟨i,o,hi,ho,hc,rfl⟩
   by_cases hlt:i<e.2.2.1.length
   ·have d:decide ((i:Int)<(e.2.2.1.length:Int))=true:=decide_eq_true (by omega)
    have hin:Zf (i:Int) e.2.2.1.length=true:=ZI.2 ⟨by omega,by omega⟩
    have w:IntKind.wrap .i64 ((i:Int)+1)=((i+1:Nat):Int):=by rw[wrap_i64 _ (by omega) (by omega)];omega
    have h0:(decide ((0:Int)<=0)&&decide ((0:Int)<=(i:Int))&&(decide ((i:Int)=0)||decide ((i:Int)<=iN e.2.2.1.length)))=true:=by
     have:(i:Int)<=iN e.2.2.1.length:=by simp only[iN];omega
     simp[this]
    have hb:∀x:TY,Nat.ble (o++[x]).length most=true:=λx=>Zav (by simp;omega)
    rw[ZU4 _ i hlt,ZVa] at hc
    cases hn:(Zl (Zu c e.2.1) e.2.1 (e.2.2.1.take i)).2
    ·right;left
     rw[hn] at hc
     simp only[cond_false,List.append_nil] at hc
     refine⟨(e.2.2.1,(e.2.2.1.length:Int),(i:Int),Zu c e.2.1,e,o,()),?_,rfl,hc⟩
     simp only[ZdW,RT.val,d,hin,ZMV,hn,hb,Bool.not_false,Bool.not_true,Bool.or_true,Bool.true_or,Bool.false_or,cond_true]
     exact ZW6 h0
    ·left
     rw[hn] at hc
     simp only[cond_true] at hc
     refine⟨(e.2.2.1,(e.2.2.1.length:Int),((i+1:Nat):Int),Zu c e.2.1,e,o++[Zrp (Zu c e.2.1) (Zl (Zu c e.2.1) e.2.1 (e.2.2.1.take i)).1 (R.get (R.int .u8) e.2.2.1 (i:Int))],()),?_,⟨i+1,_,by omega,by simp;omega,?_,rfl⟩,by simp only;omega⟩
     ·simp only[ZdW,RT.val,d,hin,w,ZMV,hn,hb,Bool.not_false,Bool.not_true,Bool.or_true,Bool.true_or,Bool.false_or,cond_true,cond_false]
      exact ZW6 h0
     ·rw[ZS0 _ i hlt,List.append_assoc]
      exact hc
   ·right;left
    have e1:i=e.2.2.1.length:=by omega
    subst e1
    have d:decide ((e.2.2.1.length:Int)<(e.2.2.1.length:Int))=false:=decide_eq_false (by omega)
    rw[List.take_length,List.drop_length,ZZY,List.append_nil] at hc
    exact⟨(e.2.2.1,(e.2.2.1.length:Int),(e.2.2.1.length:Int),Zu c e.2.1,e,o,()),by simp only[ZdW,RT.val,d,cond_false],rfl,hc⟩)
  (e.2.2.1,(e.2.2.1.length:Int),0,Zu c e.2.1,e,[],()) ⟨0,[],Nat.zero_le _,Nat.le_refl _,rfl,rfl⟩ (by simp only;omega)
 obtain⟨r1,r2⟩:=r
 simp only at h0 h1
 subst h0
 have hv:(ZjB c e).val=some (Za8 c e):=by
  unfold ZjB Za8 cycE Zqi
  simp only[RT.val,iN,hr,okB,getO,cond_true,cond_false,h1]
  cases e.1==1<;>cases e.1==2<;>cases e.1==3<;>cases e.1==6<;>cases e.1==7<;>rfl
 exact⟨by simp only[Zwn,hv];rfl,by simp only[ZD7,hv,getO]⟩
def ZdI (c:TC):List EVTT->List TC
 |[]=>[]
 |e::l=>ZaZ c e::ZdI (ZaZ c e) l
def ZaH (c:TC) (l:List EVTT):TC:=l.foldl ZaZ c
theorem ZNs (c:TC):∀l:List EVTT,(ZdI c l).length=l.length:=by
 intro l
 induction l generalizing c with
 |nil=>rfl
 |cons e l ih=>simp only[ZdI,List.length_cons,ih]
theorem ZjO {r:R} (g:List r.den) (i:Nat) (h:i<g.length):g.take (i+1)=g.take i++[R.get r g (i:Int)]:=by
 rw[List.take_add_one,List.getElem?_eq_getElem h]
 simp[R.get,List.getElem?_eq_getElem h]
theorem ZDV {r:R} (g:List r.den) (i:Nat) (h:i<g.length):g.drop i=R.get r g (i:Int)::g.drop (i+1):=by
 rw[List.drop_eq_getElem_cons h]
 simp[R.get,List.getElem?_eq_getElem h]
theorem ZTi (T:List EVTT×Int×Int×TC×List TC×PUnit->RT (Option (Go1 (List EVTT×Int×Int×TC×List TC×PUnit))))
  (hT:∀(l:List EVTT) (n i:Int) (c:TC) (o:List TC),(T (l,n,i,c,o,())).val=bif decide (i<n) then (bif !Zf i l.length||Nat.ble (o++[ZaZ c (R.get Zbh l i)]).length most then (bif Zf i l.length then some (.cont (l,n,IntKind.wrap .i64 (i+1),ZaZ c (R.get Zbh l i),o++[ZaZ c (R.get Zbh l i)],())) else none) else none) else some (.brk (l,n,i,c,o,())))
  (c:TC) (l:List EVTT) (h:l.length<=1000000):∃z,runF false T (λ_=>1000000000000) (l,(l.length:Int),0,c,[],())=some (false,(l,(l.length:Int),(l.length:Int),z,ZdI c l,())):=by
 have hms:=mst
 obtain⟨r,hr,z,h1⟩:=ZM (fl:=false) (t:=T) (fuel:=λ_=>1000000000000)
  (λa=>∃(i:Nat) (c':TC) (o:List TC),i<=l.length/\o.length=i/\o++ZdI c' (l.drop i)=ZdI c l/\a=(l,(l.length:Int),(i:Int),c',o,()))
  (λa=>Int.toNat (a.2.1-a.2.2.1)) (λr=>∃z,r=(false,(l,(l.length:Int),(l.length:Int),z,ZdI c l,())))
  (by
   rintro a ⟨i,c',o,hi,ho,hc,rfl⟩
   by_cases hlt:i<l.length
   ·left
    have d:decide ((i:Int)<(l.length:Int))=true:=decide_eq_true (by omega)
    have hin:Zf (i:Int) l.length=true:=ZI.2 ⟨by omega,by omega⟩
    have w:IntKind.wrap .i64 ((i:Int)+1)=((i+1:Nat):Int):=by rw[wrap_i64 _ (by omega) (by omega)];omega
    have hb:∀x:TC,Nat.ble (o++[x]).length most=true:=λx=>Zav (by simp;omega)
    rw[ZDV (r:=Zbh) l i hlt] at hc
    refine⟨(l,(l.length:Int),((i+1:Nat):Int),ZaZ c' (R.get Zbh l (i:Int)),o++[ZaZ c' (R.get Zbh l (i:Int))],()),?_,⟨i+1,_,_,by omega,by simp;omega,?_,rfl⟩,by simp only;omega⟩
    ·rw[hT];simp only[d,hin,w,hb,Bool.or_true,cond_true]
    ·rw[List.append_assoc];exact hc
   ·right;left
    have e1:i=l.length:=by omega
    subst e1
    have d:decide ((l.length:Int)<(l.length:Int))=false:=decide_eq_false (by omega)
    rw[List.drop_length] at hc
    simp only[ZdI,List.append_nil] at hc
    subst hc
    exact⟨_,by rw[hT];simp only[d,cond_false],c',rfl⟩)
  (l,(l.length:Int),0,c,[],()) ⟨0,c,[],Nat.zero_le _,rfl,rfl,rfl⟩ (by simp only;omega)
 exact⟨z,by rw[<-h1];exact hr⟩
theorem Z0s (c:TC) (l:List EVTT) (h:l.length<=1000000):Zwl c l=true/\ZD4 c l=ZdI c l:=by
 obtain⟨z,hr⟩:=ZTi Zhl (λl n i c o=>by simp only[Zhl,RT.val,ZSm]) c l h
 have hv:(Zjx c l).val=some (ZdI c l):=by simp only[Zjx,RT.val,iN,hr,okB,getO,cond_true]
 exact⟨by simp only[Zwl,hv];rfl,by simp only[ZD4,hv,getO]⟩
theorem ZFb {r:R} (hp:r.plain=true) (T:List r.den×List r.den×Bool×Int×Int×PUnit->RT (Option (Go1 (List r.den×List r.den×Bool×Int×Int×PUnit))))
  (hT:∀(a b:List r.den) (f:Bool) (n i:Int),Zf i a.length=true->Zf i b.length=true->(T (a,b,f,n,i,())).val=bif decide (i<n) then (bif r.eqf (R.get r a i) (R.get r b i) true then some (.cont (a,b,f,n,IntKind.wrap .i64 (i+1),())) else some (.ret (a,b,false,n,i,()))) else some (.brk (a,b,f,n,i,())))
  (hT2:∀(a b:List r.den) (f:Bool) (n:Int),(T (a,b,f,n,n,())).val=some (.brk (a,b,f,n,n,())))
  (a b:List r.den) (h:a.length=b.length) (hl:a.length<=1000000000):
  ∃q,runF true T (λ_=>1000000000000) (a,b,false,(a.length:Int),0,())=some q/\((q.1=false/\a=b)\/(q.1=true/\a≠b/\q.2.2.2.1=false)):=by
 refine ZM (fl:=true) (t:=T) (fuel:=λ_=>1000000000000)
  (λx=>∃i:Nat,i<=a.length/\a.take i=b.take i/\x=(a,b,false,(a.length:Int),(i:Int),()))
  (λx=>Int.toNat (x.2.2.2.1-x.2.2.2.2.1)) _ ?_ _ ⟨0,Nat.zero_le _,rfl,rfl⟩ (by simp only;omega)
 rintro x ⟨i,hi,ht,rfl⟩
 by_cases hlt:i<a.length
 ·have d:decide ((i:Int)<(a.length:Int))=true:=decide_eq_true (by omega)
  have i1:Zf (i:Int) a.length=true:=ZI.2 ⟨by omega,by omega⟩
  have i2:Zf (i:Int) b.length=true:=ZI.2 ⟨by omega,by omega⟩
  have w:IntKind.wrap .i64 ((i:Int)+1)=((i+1:Nat):Int):=by rw[wrap_i64 _ (by omega) (by omega)];omega
  cases he:r.eqf (R.get r a (i:Int)) (R.get r b (i:Int)) true
  ·right;right
   refine⟨(a,b,false,(a.length:Int),(i:Int),()),rfl,by rw[hT _ _ _ _ _ i1 i2];simp only[d,he,cond_true,cond_false],.inr ⟨rfl,λe=> ?_,rfl⟩⟩
   rw[e,R.eqf_refl] at he
   exact absurd he (by simp)
  ·left
   have e:=((R.eqf_iff r hp _ _ _).1 he).1
   refine⟨(a,b,false,(a.length:Int),((i+1:Nat):Int),()),by rw[hT _ _ _ _ _ i1 i2];simp only[d,he,w,cond_true],⟨i+1,by omega,?_,rfl⟩,by simp only;omega⟩
   rw[ZjO a i hlt,ZjO b i (by omega),ht,e]
 ·right;left
  have e1:i=a.length:=by omega
  subst e1
  refine⟨_,hT2 _ _ _ _,.inl ⟨rfl,?_⟩⟩
  rw[List.take_length] at ht
  rw[ht,h,List.take_length]
def ZfS (r:R):List r.den->List r.den->Bool
 |[],[]=>true
 |x::a,y::b=>r.eqf x y (ZfS r a b)
 |_,_=>false
theorem Ziw (r:R) (hp:r.plain=true):∀a b:List r.den,ZfS r a b=true↔a=b
 |[],[]=>by simp[ZfS]
 |[],y::b=>by simp[ZfS]
 |x::a,[]=>by simp[ZfS]
 |x::a,y::b=>by
  simp only[ZfS]
  rw[R.eqf_iff r hp,Ziw r hp a b]
  simp
theorem ZqP (r:R):∀a:List r.den,ZfS r a a=true
 |[]=>rfl
 |x::a=>by simp only[ZfS,R.eqf_refl,ZqP r a]
theorem Zln (r:R) (hp:r.plain=true) {a b:List r.den} (h:a≠b):ZfS r a b=false:=by
 cases hq:ZfS r a b
 ·rfl
 ·exact absurd ((Ziw r hp a b).1 hq) h
theorem ZWY {α:Type} {a b:List α} (h:(iN a.length !=iN b.length)=true):a≠b:=λe=>by subst e;simp at h
theorem ZNa (a b:List TY) (h:a.length<=1000000000):Zr4 a b=true/\ZzH a b=ZfS RY a b:=by
 have hv:(Zic a b).val=some (ZfS RY a b):=by
  unfold Zic
  cases hx:iN a.length !=iN b.length
  ·have hl:a.length=b.length:=by simp only[iN,bne_eq_false_iff_eq] at hx;omega
   obtain⟨q,hr,hq⟩:=ZFb (r:=RY) rfl ZeL (λa b f n i h1 h2=>by
    simp only[ZeL,RT.val,h1,h2,Bool.not_true,Bool.or_self,Bool.false_or,cond_true]
    cases decide (i<n)
    ·rfl
    ·simp only[cond_true]
     cases RY.eqf (R.get RY a i) (R.get RY b i) true<;>rfl) (λa b f n=>by
    have d:decide (n<n)=false:=decide_eq_false (by omega)
    simp only[ZeL,RT.val,d,cond_false]) a b hl h
   simp only[RT.val,iN] at hr|-
   rcases hq with ⟨e1,e2⟩|⟨e1,e2,e3⟩
   ·rw[(Ziw RY rfl a b).2 e2];simp only[hr,e1,okB,getO,cond_true,cond_false]
   ·simp only[hr,e1,e3,okB,getO,cond_true,cond_false]
    exact congrArg some (Zln RY rfl e2).symm
  ·simp only[RT.val,hx,cond_true]
   exact congrArg some (Zln RY rfl (ZWY hx)).symm
 exact⟨by simp only[Zr4,hv];rfl,by simp only[ZzH,hv,getO]⟩
theorem ZNb (a b:List TC) (h:a.length<=1000000000):Zr5 a b=true/\ZzI a b=ZfS Zx a b:=by
 have hv:(Zif a b).val=some (ZfS Zx a b):=by
  unfold Zif
  cases hx:iN a.length !=iN b.length
  ·have hl:a.length=b.length:=by simp only[iN,bne_eq_false_iff_eq] at hx;omega
   obtain⟨q,hr,hq⟩:=ZFb (r:=Zx) rfl ZeM (λa b f n i h1 h2=>by
    simp only[ZeM,RT.val,h1,h2,Bool.not_true,Bool.or_self,Bool.false_or,cond_true]
    cases decide (i<n)
    ·rfl
    ·simp only[cond_true]
     cases Zx.eqf (R.get Zx a i) (R.get Zx b i) true<;>rfl) (λa b f n=>by
    have d:decide (n<n)=false:=decide_eq_false (by omega)
    simp only[ZeM,RT.val,d,cond_false]) a b hl h
   simp only[RT.val,iN] at hr|-
   rcases hq with ⟨e1,e2⟩|⟨e1,e2,e3⟩
   ·rw[(Ziw Zx rfl a b).2 e2];simp only[hr,e1,okB,getO,cond_true,cond_false]
   ·simp only[hr,e1,e3,okB,getO,cond_true,cond_false]
    exact congrArg some (Zln Zx rfl e2).symm
  ·simp only[RT.val,hx,cond_true]
   exact congrArg some (Zln Zx rfl (ZWY hx)).symm
 exact⟨by simp only[Zr5,hv];rfl,by simp only[ZzI,hv,getO]⟩
def ZsL (e:EVTT):Bool:=Nat.ble e.2.2.1.length 1000000
def Ziz {α:Type} (l:List α):Bool:=Nat.ble l.length 1000000
theorem ZsK {α:Type} {l:List α} (h:Ziz l=true):l.length<=1000000:=by simpa [Ziz] using h
theorem ZTf {e:EVTT} (h:ZsL e=true):e.2.2.1.length<=1000000:=by simpa [ZsL] using h
def Zhm:Entry:=Zg Zwo Zwp (λ_=>none) (λa=>ZaZ a.1 a.2)
theorem Zff:Za prog 48 Zhm:=Zp2.tot (λa h=>by simp) (λa h=>ZSm a.1 a.2)
def Zfe:Entry:=Zg Zp1 ZjC (λa=>some (ZsL a.2)) (λa=>Za8 a.1 a.2)
theorem Zes:Za prog 51 Zfe:=Zit ZK9 λa h=>cyc_b a.1 a.2 (ZTf h)
def ZgN:Entry:=Zg ZpZ Zjy (λa=>some (Ziz a.2)) (λa=>ZdI a.1 a.2)
theorem ZfK:Za prog 56 ZgN:=Zit ZK5 λa h=>Z0s a.1 a.2 (ZsK h)
def Zie:Entry:=Zg ZlY Zid (λa=>some (Ziz a.1)) (λa=>ZfS RY a.1 a.2)
theorem ZhF:Za prog 50 Zie:=Zit ZHP λa h=>ZNa a.1 a.2 (Nat.le_trans (ZsK h) (by omega))
def Zih:Entry:=Zg ZlZ Zig (λa=>some (Ziz a.1)) (λa=>ZfS Zx a.1 a.2)
theorem ZhG:Za prog 55 Zih:=Zit ZHR λa h=>ZNb a.1 a.2 (Nat.le_trans (ZsK h) (by omega))
abbrev ZaP:R:=R.int u8
abbrev ZaQ:Nat:=5
abbrev ZjE:List Sh:=[Sh.one (R.sl Zdp)]
def ZzP:LS:={n:=64,slots:=[(3,.tip 0),(7,.code (Sh.one (R.sl Zdp))),(8,.code (Sh.one (R.int i64))),(9,.code (Sh.one (R.int i64)))],boxes:=[],stgs:=[⟨(R.int u8),5,false⟩]}
def ZhI (a:List INPT×Int×Int×List Int×PUnit):RT (Option (Go1 (List INPT×Int×Int×List Int×PUnit))):=
 let x1:INPT:=R.get Zdp a.1 a.2.2.1
 let x2:= !x1.1
 let x3:=Zfi x2 0
 let x4:= !x3
 let x5:=x1.2
 let x6:=x5.1
 let x7:=Zfi x6 1
 let x8:= !x7
 let x9:=x5.2
 let x10:=x9.1
 let x11:=Zfi x10 2
 let x12:= !x11
 let x13:=x9.2
 let x14:=x13.1
 let x15:=Zfi x14 3
 let x16:= !x15
 let p2:=x16::x12::x8::x4::[]
 let x17:=x13.2
 let x18:=x17.1
 let x19:=Zfi x18 4
 let x20:= !x19
 let p4:=x20::p2
 let x21:=x17.2
 let x22:=x21.1
 let x23:=Zfi x22 5
 let x24:= !x23
 let p5:=x24::p4
 let x25:=x21.2
 let x26:=x25.1
 let x27:=Zfi x26 6
 let p8:=(!x27)::p5
 let x28:=x25.2
 let x29:=x28.1
 let x30:=orR p8 (Zfi x29 7)
 let x31:= !x30
 let x32:=orR p5 x27
 let x33:= !x32
 let p1:=x33::x31::(decide (a.2.2.1>=65536))::(!Zf a.2.2.1 (List.length a.1))::[]
 let x34:=orR p4 x23
 let x35:= !x34
 let p3:=x35::p1
 let x36:=orR p2 x19
 let x37:= !x36
 let p6:=x37::p3
 let x38:=x4||(x8||(x12||x15))
 let x39:= !x38
 let p7:=x39::p6
 let x40:=x4||(x8||x11)
 let x41:= !x40
 let p9:=x41::p7
 let x42:=x4||x7
 let x43:= !x42
 let p10:=x43::p9
 let p11:=x4::p10
 let x44:=orI u8 (orI u8 (orI u8 (orI u8 (orI u8 (orI u8 (orI u8 (wBit x2 0) (wBit x6 1)) (wBit x10 2)) (wBit x14 3)) (wBit x18 4)) (wBit x22 5)) (wBit x26 6)) (wBit x29 7)
 let x45:=x28.2
 let x46:=x45.1
 let x47:=x45.2
 let x48:List Int:=a.2.2.2.1++[x44,x46,x47,ZwK x44 x46 x47]
 .br (decide (a.2.2.1<a.2.1)) (.br (orR p11 (Nat.ble (List.length x48) most)) (.br (orR p10 x3) (.br (orR p9 x42) (.br (orR p7 x40) (.br (orR p6 x38) (.br (orR p3 x36) (.br (orR p1 x34) (.br (!Zf a.2.2.1 (List.length a.1)||(decide (a.2.2.1>=65536)||(x31||x32))) (.br (!Zf a.2.2.1 (List.length a.1)||(decide (a.2.2.1>=65536)||x30)) (.br (Zf a.2.2.1 (List.length a.1)) (.br (decide (a.2.2.1>=65536)) (.leaf (some (Go1.brk (a.1,a.2.1,a.2.2.1,a.2.2.2.1,PUnit.unit)))) (.leaf (some (Go1.cont (a.1,a.2.1,i64.wrap (a.2.2.1+1),x48,PUnit.unit))))) (.leaf none)) (.leaf none)) (.leaf none)) (.leaf none)) (.leaf none)) (.leaf none)) (.leaf none)) (.leaf none)) (.leaf none)) (.leaf none)) (.leaf (some (Go1.brk (a.1,a.2.1,a.2.2.1,a.2.2.2.1,PUnit.unit))))
def Zl2:Ora:=Za5 false ZzP ZhI (λa=>1000000000000)
theorem Zr8:ZaJ (envX prog [(133,ZXn),(134,Zl6)] [] 127 8) (.block 0 (.loop (Z6 Tryz.f70.body 0))) Zl2:=
 loopP ⟨ZLI,Zin,Tv⟩
def Zf3 (l:List INPT):RT (Option (List Int)):=
 let x1:=runF false ZhI (λa=>1000000000000) (l,iN (List.length l),0,[],())
 .br (okB x1) (.leaf (some (getO (false,l,iN (List.length l),0,[],()) x1).2.2.2.2.1)) (.leaf none)
def Zbv (l:List INPT):List Int:=getO [] (Zf3 l).val
def Zf4 (l:List INPT):Bool:=okB (Zf3 l).val
def ZwF:Entry:=frzE (newE ZaP ZaQ ZjE (λa=>some (Zf4 a)) (λa=>Zbv a))
theorem ZwG:Za prog 70 (newE ZaP ZaQ ZjE (λa=>some (Zf4 a)) (λa=>Zbv a)):=
 ZlK (P:=prog) (n:=127) (k:=8) (l:=[(133,ZXn),(134,Zl6)]) (ol:=[(0,Zl2)]) ⟨ZLI,Zin,Tv⟩ Tryz.func70 rfl (by kernel_rfl) Tryz.call70 ⟨Zr8,Tv⟩ (r:=ZaP) (T:=ZaQ) (ts:=ZjE) (t:=λa=>Zf3 a) (λa=>by kernel_rfl)
theorem ZzO:Za prog 70 ZwF:=Zze ZwG
abbrev ZoQ:R:=R.pair (R.sl (R.int i64)) (R.int i64)
abbrev Zyx:List Sh:=[Sh.one (R.int i64)]
abbrev ZoP:Rs:=Rs.one (Sh.one (R.sl (R.int u8)))
def Zg8 (s:List Int×Int) (n:Int):RT (Option (List Int×List Int×Int)):=
 let x1:=decide (iN (List.length (Stg.l (newG ZaP ZaQ (Zbv (Zai s n).1))))>0)
 let x2:=x1&&(Zd (Zai s n).2 4).1==0
 let x3:= !x2
 let x4:List Int:=bif x1 then (Zd (Zai s n).2 4).2.1 else (Zai s n).2.1
 let x5:Int:=bif x1 then (Zd (Zai s n).2 4).2.2 else (Zai s n).2.2
 let x6:List Int×Int:=(x4,x5)
 let x7:=Zp x6 (iN (List.length (Stg.l (newG ZaP ZaQ (Zbv (Zai s n).1)))))
 let x8:= !x7
 let x9:=Zd x6 (iN (List.length (Stg.l (newG ZaP ZaQ (Zbv (Zai s n).1)))))
 let x10:=x9.1
 let x11:=Zf x10 (List.length (Stg.l (newG ZaP ZaQ (Zbv (Zai s n).1))))
 let x12:= !x11
 let x13:=x9.2
 let x14:=Zp x13 8
 let x15:= !x14
 let p1:=x15::x12::x8::x3::[]
 let x16:=Zd x13 8
 let x17:=x16.1
 let x18:=decide (0<=x17)
 let p2:=(!x18)::p1
 let x19:=x16.2
 .br (!Zi9 s n||Zf4 (Zai s n).1) (.br (Zi9 s n) (.br (!x1||Zp (Zai s n).2 4) (.br (orR p2 x11) (.br (orR p1 x18) (.br (x3||(x8||(x12||x14))) (.br (x3||(x8||x11)) (.br (x3||x7) (.leaf (some ((bif x2 then setI (Stg.l (newG ZaP ZaQ (Zbv (Zai s n).1))) x10 (xorI u8 (R.get (Stg.r (newG ZaP ZaQ (Zbv (Zai s n).1))) (Stg.l (newG ZaP ZaQ (Zbv (Zai s n).1))) x10) (shlI u8 1 x17)) else Stg.l (newG ZaP ZaQ (Zbv (Zai s n).1)),bif x2 then x19.1 else x4,bif x2 then x19.2 else x5)))) (.leaf none)) (.leaf none)) (.leaf none)) (.leaf none)) (.leaf none)) (.leaf none)) (.leaf none)) (.leaf none)
def Zc0 (s:List Int×Int) (n:Int):List Int×List Int×Int:=getO (ZoP.dflt,ZoQ.dflt) (Zg8 s n).val
def Zg9 (s:List Int×Int) (n:Int):Bool:=okB (Zg8 s n).val
def ZG3:Entry:=boxE ZoQ Zyx ZoP (λa=>some (Zg9 a.1 a.2)) (λa=>Zc0 a.1 a.2)
theorem ZKA:Za prog 64 ZG3:=
 Zck (P:=prog) (n:=63) (k:=8) (l:=[(46,ZcE),(70,ZwF),(71,ZG4)]) (ol:=[]) ⟨Zbc,ZzO,ZKD,Tv⟩ Tryz.func64 rfl (by kernel_rfl) Tryz.call64 trivial (rb:=ZoQ) (ts:=Zyx) (rs:=ZoP) (t:=λa=>Zg8 a.1 a.2) (λa=>by kernel_rfl)
theorem ZRQ:ZhI=ZdQ:=by funext a;rfl
theorem ZSC (l:List INPT) (hl:l.length<=1000):Zf4 l=true/\Zbv l=Zl3 l/\(Zbv l).length=4*l.length:=by
 have h:=ZHV l hl
 have e:Zf3 l=ZgP l:=by unfold Zf3 ZgP;rw[ZRQ]
 have e2:Zbv l=Zl3 l:=by
  unfold Zbv Zl3;rw[e];rfl
 refine⟨by unfold Zf4;rw[e];exact h.1,e2,by rw[e2];exact h.2⟩
theorem ZKB {s:List Int×Int} {k:Int} (h:NB s k) (hk:k<=50000) (n:Nat) (hn:n<=250):
  Zg9 s (n:Int)=true/\NB (Zc0 s (n:Int)).2 (k+10+30*n)/\(Zc0 s (n:Int)).1.length<=4*n/\∃m:Nat,(Zc0 s (n:Int)).1.length=4*m:=by
 have hms:=mst
 obtain⟨c1,b1,l1⟩:=ZKE h (by omega) n hn
 obtain⟨c2,e2,l2⟩:=ZSC (Zai s (n:Int)).1 (by omega)
 have hg:∀l:List Int,Stg.l (newG ZaP ZaQ l)=l:=λ_=>rfl
 have hr:∀l:List Int,Stg.r (newG ZaP ZaQ l)=R.int .u8:=λ_=>rfl
 obtain⟨L,hL⟩:∃L,L=Zbv (Zai s (n:Int)).1:=⟨_,rfl⟩
 rw[<-hL] at l2
 obtain⟨c3,b3,_⟩:=ZH b1 (by omega) 4 (by decide) (by decide)
 have b4:NB (bif decide (iN L.length>0) then (Zd (Zai s (n:Int)).2 4).2.1 else (Zai s (n:Int)).2.1,bif decide (iN L.length>0) then (Zd (Zai s (n:Int)).2 4).2.2 else (Zai s (n:Int)).2.2) (k+3+30*n):=by
  cases decide (iN L.length>0)
  ·exact b1.up (by omega)
  ·exact b3.up (by omega)
 obtain⟨s4,hs4⟩:∃s4:List Int×Int,s4=(bif decide (iN L.length>0) then (Zd (Zai s (n:Int)).2 4).2.1 else (Zai s (n:Int)).2.1,bif decide (iN L.length>0) then (Zd (Zai s (n:Int)).2 4).2.2 else (Zai s (n:Int)).2.2):=⟨_,rfl⟩
 rw[<-hs4] at b4
 have hv:∃l s',(Zg8 s (n:Int)).val=some (l,s')/\NB s' (k+10+30*n)/\l.length=L.length:=by
  by_cases hz:0<L.length
  ·have d:decide (iN L.length>0)=true:=decide_eq_true (by simp only[iN];omega)
   obtain⟨c5,b5,d0,d1⟩:=ZH b4 (by omega) (iN L.length) (by simp only[iN];omega) (by simp only[iN];omega)
   obtain⟨c6,b6,f0,f1⟩:=ZH b5 (by omega) 8 (by decide) (by decide)
   have r5:Zf (Zd s4 (iN L.length)).1 L.length=true:=ZI.2 ⟨d0,by simpa [iN] using d1⟩
   have e6:decide (0<=(Zd (Zd s4 (iN L.length)).2 8).1)=true:=decide_eq_true f0
   rw[d] at hs4
   simp only[cond_true] at hs4
   unfold Zg8
   simp only[RT.val,hg,hr,<-hL,c1,c2,d,c3,<-hs4,c5,r5,c6,e6,Zec,ZcD,Bool.true_and,Bool.not_true,Bool.or_true,Bool.false_or,cond_true]
   cases (Zd (Zai s (n:Int)).2 4).1==0
   ·exact⟨_,_,rfl,b3.up (by omega),rfl⟩
   ·exact⟨_,_,rfl,b6.up (by omega),by simp only[cond_true,setI,List.length_set]⟩
  ·have d:decide (iN L.length>0)=false:=decide_eq_false (by simp only[iN];omega)
   rw[d] at hs4
   simp only[cond_false] at hs4
   unfold Zg8
   simp only[RT.val,hg,hr,<-hL,c1,c2,d,Zec,ZcD,Bool.false_and,Bool.not_true,Bool.not_false,Bool.true_or,Bool.or_true,Bool.false_or,cond_true,cond_false]
   exact⟨_,_,rfl,b1.up (by omega),rfl⟩
 obtain⟨l,s',hv,h1,h2⟩:=hv
 simp only[Zg9,Zc0,hv,okB,getO]
 exact⟨trivial,h1,by omega,(Zai s (n:Int)).1.length,by omega⟩
abbrev ZrS:List Sh:=[Sh.agg Zx,Sh.one rcRG,Sh.one rcCE,Sh.agg Zbh]
abbrev ZkD:Rs:=Rs.one (Sh.one rcCE)
def ZD3:LS:={n:=48,slots:=[(1,.code (Sh.one rcRG)),(2,.code (Sh.one rcCE)),(25,.code (Sh.one (R.sl (RY)))),(26,.code (Sh.one (R.int i64))),(27,.code (Sh.one (R.int i64)))],boxes:=[[.many Zx],[.many Zbh]],stgs:=[]}
def Zer (a:List (QT4)×List (Int×Int)×List TY×Int×Int×TC×EVTT×PUnit):RT (Option (Go1 (List (QT4)×List (Int×Int)×List TY×Int×Int×TC×EVTT×PUnit))):=
 let x1:QT11:=R.get (RY) a.2.2.1 a.2.2.2.2.1
 let x2:=x1.1
 let x3:=x2==3||x2==5
 let x4:=x1.2
 let x5:TC×EVTT×PUnit:=(a.2.2.2.2.2.1,a.2.2.2.2.2.2.1,PUnit.unit)
 .br (decide (a.2.2.2.2.1<a.2.2.2.1)) (.br (!Zf a.2.2.2.2.1 (List.length a.2.2.1)||(!x3||smG a.1&&smC a.2.1)) (.br (Zf a.2.2.2.2.1 (List.length a.2.2.1)) (.leaf (some (Go1.cont (a.1,bif x3 then ZbG a.1 a.2.1 x4.1 x4.2.1 else a.2.1,a.2.2.1,a.2.2.2.1,i64.wrap (a.2.2.2.2.1+1),x5)))) (.leaf none)) (.leaf none)) (.leaf (some (Go1.brk (a.1,a.2.1,a.2.2.1,a.2.2.2.1,a.2.2.2.2.1,x5))))
def ZpX:Ora:=Za5 false ZD3 Zer (λa=>1000000000000)
theorem Zwk:ZaJ (envX prog [(51,Zfe),(187,ZnR)] [] 2047 8) (.block 0 (.loop (Z6 Tryz.f118.body 0))) ZpX:=
 loopP ⟨Zes,ZnQ,Tv⟩
def ZgM (c:TC) (rg:List (QT4)) (m:List (Int×Int)) (e:EVTT):RT (Option (List (Int×Int))):=
 let x1:List (QT4)×List (Int×Int)×List TY×Int×Int×TC×EVTT×PUnit:=(rg,m,Za8 c e,iN (List.length (Za8 c e)),0,c,e,())
 let x2:=runF false Zer (λa=>1000000000000) x1
 .br (!e.1==5||smG rg&&smC m) (.br (e.1==5) (.leaf (some (ZbG rg m e.2.2.2.2.2.2.2.2.1 e.2.2.2.2.2.2.2.2.2))) (.br (ZsL e) (.br (okB x2) (.leaf (some (getO (false,x1) x2).2.2.1)) (.leaf none)) (.leaf none))) (.leaf none)
def ZlV (c:TC) (rg:List (QT4)) (m:List (Int×Int)) (e:EVTT):List (Int×Int):=getO ZkD.dflt (ZgM c rg m e).val
def Zjw (c:TC) (rg:List (QT4)) (m:List (Int×Int)) (e:EVTT):Bool:=okB (ZgM c rg m e).val
def ZpY:Entry:=Zg ZrS ZkD (λa=>some (Zjw a.1 a.2.1 a.2.2.1 a.2.2.2)) (λa=>ZlV a.1 a.2.1 a.2.2.1 a.2.2.2)
theorem ZpW:Za prog 118 ZpY:=
 pureP 2047 [(51,Zfe),(187,ZnR)] [(0,ZpX)] ZrS ZkD ⟨Zes,ZnQ,Tv⟩ Tryz.func118 Tryz.call118 ⟨Zwk,Tv⟩ (t:=λa=>ZgM a.1 a.2.1 a.2.2.1 a.2.2.2)
abbrev Zp0:List Sh:=[Sh.agg Zx,Sh.one rcRG,Sh.one rcCE,Sh.one (R.sl Zbh)]
abbrev ZjA:Rs:=Rs.one (Sh.one rcCE)
def ZK8:LS:={n:=29,slots:=[(1,.code (Sh.one rcRG)),(2,.code (Sh.one rcCE)),(4,.fix (A.loc 0 0)),(13,.code (Sh.one (R.sl Zbh))),(14,.code (Sh.one (R.int i64))),(15,.code (Sh.one (R.int i64)))],boxes:=[[.many Zx]],stgs:=[]}
def Zfd (a:List (QT4)×List (Int×Int)×List EVTT×Int×Int×TC×PUnit):RT (Option (Go1 (List (QT4)×List (Int×Int)×List EVTT×Int×Int×TC×PUnit))):=
 let x1:EVTT:=R.get Zbh a.2.2.1 a.2.2.2.2.1
 .br (decide (a.2.2.2.2.1<a.2.2.2.1)) (.br (!Zf a.2.2.2.2.1 (List.length a.2.2.1)||Zjw a.2.2.2.2.2.1 a.1 a.2.1 x1) (.br (Zf a.2.2.2.2.1 (List.length a.2.2.1)) (.leaf (some (Go1.cont (a.1,ZlV a.2.2.2.2.2.1 a.1 a.2.1 x1,a.2.2.1,a.2.2.2.1,i64.wrap (a.2.2.2.2.1+1),ZaZ a.2.2.2.2.2.1 x1,PUnit.unit)))) (.leaf none)) (.leaf none)) (.leaf (some (Go1.brk (a.1,a.2.1,a.2.2.1,a.2.2.2.1,a.2.2.2.2.1,a.2.2.2.2.2.1,PUnit.unit))))
def ZrU:Ora:=Za5 false ZK8 Zfd (λa=>1000000000000)
theorem Zzw:ZaJ (envX prog [(48,Zhm),(117,ZDH),(118,ZpY)] [] 2047 8) (.block 0 (.loop (Z6 Tryz.f58.body 0))) ZrU:=
 loopP ⟨Zff,ZyQ,ZpW,Tv⟩
def Zjz (c:TC) (rg:List (QT4)) (m:List (Int×Int)) (l:List EVTT):RT (Option (List (Int×Int))):=
 let x1:List (QT4)×List (Int×Int)×List EVTT×Int×Int×TC×PUnit:=(rg,Cells.normX m,l,iN (List.length l),0,c,())
 let x2:=runF false Zfd (λa=>1000000000000) x1
 .br (smC m) (.br (okB x2) (.leaf (some (getO (false,x1) x2).2.2.1)) (.leaf none)) (.leaf none)
def ZD6 (c:TC) (rg:List (QT4)) (m:List (Int×Int)) (l:List EVTT):List (Int×Int):=getO ZjA.dflt (Zjz c rg m l).val
def Zwm (c:TC) (rg:List (QT4)) (m:List (Int×Int)) (l:List EVTT):Bool:=okB (Zjz c rg m l).val
def ZVi:Entry:=Zg Zp0 ZjA (λa=>some (Zwm a.1 a.2.1 a.2.2.1 a.2.2.2)) (λa=>ZD6 a.1 a.2.1 a.2.2.1 a.2.2.2)
theorem ZK7:Za prog 58 ZVi:=
 pureP 2047 [(48,Zhm),(117,ZDH),(118,ZpY)] [(0,ZrU)] Zp0 ZjA ⟨Zff,ZyQ,ZpW,Tv⟩ Tryz.func58 Tryz.call58 ⟨Zzw,Tv⟩ (t:=λa=>Zjz a.1 a.2.1 a.2.2.1 a.2.2.2)
abbrev ZHp:List Sh:=[Sh.agg (R.pair (R.int i64) (R.pair rcRG (R.pair (R.int i64) (R.pair (R.int u8) (R.pair (R.int u8) (R.pair R.bool rcCE))))))]
abbrev ZHq:Rs:=Rs.one (Sh.agg Zx)
def ZRm (b:BRDT):RT TC:=
 let x1:TR:=(0,0,0,0,0,0,0,(false,false,false,false,false,false,false),0,0)
 let x2:=ZO (b.1,x1,false,false,false,0,false,false,false,false,false,false,false)
 .leaf ((x2.1,x1,false,false,false,x2.2.2.2.2.2.1,false,false,false,false,false,false,false))
def ZgA (b:BRDT):TC:=(ZRm b).val
def ZvX:Entry:=Zg ZHp ZHq (λ_=>none) (λa=>ZgA a)
theorem Zps:Za prog 60 ZvX:=
 pureQ 7 [(81,Zs3)] [] ZHp ZHq ⟨ZmN,Tv⟩ Tryz.func60 Tryz.call60 trivial (t:=λa=>ZRm a)
def ZeG:Entry:=.tree (ZS (envX prog [] [] 7 8) Tryz.f21)
theorem Zhs:Za prog 21 ZeG:=Zaq (P:=prog) (n:=7) (k:=8) (l:=[]) (ol:=[]) trivial Tryz.func21 rfl (by kernel_rfl) Tryz.call21 trivial
abbrev ZRn:List Sh:=[Sh.one (R.sl (R.int i64)),Sh.one R.bool]
abbrev ZDL:Rs:=Rs.tup [Sh.agg (R.pair (R.int i64) (R.pair rcRG (R.pair (R.int i64) (R.pair (R.int u8) (R.pair (R.int u8) (R.pair R.bool rcCE)))))),Sh.agg (R.pair (R.sl ZIb) (R.pair (R.sl Zhp) (R.pair (R.sl Zbh) (R.pair (R.sl Zx) (R.pair (R.pair Zx (R.pair (R.int i64) (R.pair (R.sl (R.int u8)) (R.pair (RY) (R.pair (R.int i64) R.bool))))) (R.pair rcCE (R.pair Za4 (R.pair (R.pair (R.int u16) (R.pair (R.int u8) (R.int i64))) (R.pair (R.int i64) (R.sl (R.pair (R.int u8) (R.int u8))))))))))))]
def Zy3 (n:List Int) (h:Bool):RT (Option (BRDT×RUNT)):=
 let x1:BRDT:=((Zaj (n,0)).1.1,(Zaj (n,0)).1.2.1,(Zaj (n,0)).1.2.2.1,(Zaj (n,0)).1.2.2.2.1,bif !h then 240 else (Zaj (n,0)).1.2.2.2.2.1,(Zaj (n,0)).1.2.2.2.2.2)
 .br (Zo6 (n,0)) (.br (!Zg9 (Zaj (n,0)).2 90||ZSw x1 (Zc0 (Zaj (n,0)).2 90).1) (.br (Zg9 (Zaj (n,0)).2 90) (.leaf (some ((x1,(wRun x1 (Zc0 (Zaj (n,0)).2 90).1).1)))) (.leaf none)) (.leaf none)) (.leaf none)
def Zjg (n:List Int) (h:Bool):BRDT×RUNT:=getO ZDL.dflt (Zy3 n h).val
def ZHs (n:List Int) (h:Bool):Bool:=okB (Zy3 n h).val
def ZHr:Entry:=Zg ZRn ZDL (λa=>some (ZHs a.1 a.2)) (λa=>Zjg a.1 a.2)
theorem ZvY:Za prog 54 ZHr:=
 pureP 1023 [(21,ZeG),(62,ZQ1),(63,ZZ2),(64,ZG3)] [] ZRn ZDL ⟨Zhs,ZQY,ZXg,ZKA,Tv⟩ Tryz.func54 Tryz.call54 trivial (t:=λa=>Zy3 a.1 a.2)
abbrev GT:=QT4
def wrY (g:List GT) (m:List Cell) (x:TY):List Cell:=bif x.1==3||x.1==5 then ZbG g m x.2.1 x.2.2.1 else m
def wrL (g:List GT) (m:List Cell) (l:List TY):List Cell:=l.foldl (wrY g) m
def wrE (c:TC) (g:List GT) (m:List Cell) (e:EVTT):List Cell:=bif e.1==5 then ZbG g m e.2.2.2.2.2.2.2.2.1 e.2.2.2.2.2.2.2.2.2 else wrL g m (Za8 c e)
def memF (g:List GT):TC->List Cell->List EVTT->List Cell
 |_,m,[]=>m
 |c,m,e::l=>memF g (ZaZ c e) (wrE c g m e) l
def memX (c:TC) (g:List GT) (m:List Cell) (l:List EVTT):List Cell:=memF g c (normX m) l
def wgh:List EVTT->Nat
 |[]=>0
 |e::l=>e.2.2.1.length+1+wgh l
theorem ZXe (g:List GT) (m:List Cell) (x:TY):(wrY g m x).length<=m.length+1:=by
 have:=Zib g m x.2.1 x.2.2.1
 unfold wrY
 cases x.1==3||x.1==5
 ·exact Nat.le_succ _
 ·exact this
theorem ZzG (g:List GT):∀(l:List TY) (m:List Cell),(wrL g m l).length<=m.length+l.length
 |[],m=>Nat.le_refl _
 |x::l,m=>by
  have h1:=ZzG g l (wrY g m x)
  have h2:=ZXe g m x
  show (wrL g (wrY g m x) l).length<=_
  simp only[List.length_cons];omega
theorem Zwe (c:TC) (e:EVTT):(Za8 c e).length<=e.2.2.1.length:=by
 unfold Za8
 cases cycE e.1
 ·exact Nat.zero_le _
 ·exact ZR3 _ _ _ _
theorem ZXf (c:TC) (g:List GT) (m:List Cell) (e:EVTT):(wrE c g m e).length<=m.length+(e.2.2.1.length+1):=by
 have h1:=Zib g m e.2.2.2.2.2.2.2.2.1 e.2.2.2.2.2.2.2.2.2
 have h2:=ZzG g (Za8 c e) m
 have h3:=Zwe c e
 unfold wrE
 cases e.1==5<;>simp only[cond_true,cond_false]<;>omega
theorem ZSr (l:List EVTT) (i:Nat) (h:i<l.length):wgh (l.drop i)=(R.get Zbh l (i:Int)).2.2.1.length+1+wgh (l.drop (i+1)):=by
 rw[ZDV (r:=Zbh) l i h];rfl
theorem ZXd (g:List GT) (m:List Cell) (l:List TY) (i:Nat) (h:i<l.length):wrL g m (l.take (i+1))=wrY g (wrL g m (l.take i)) (R.get RY l (i:Int)):=by
 rw[ZjO (r:=RY) l i h];unfold wrL;rw[List.foldl_append];rfl
theorem smCm {l:List Cell} (h:l.length<=1000000000):smC l=true:=Zav (by have:=mst;omega)
theorem wr_b (c:TC) (g:List GT) (m:List Cell) (e:EVTT) (hg:smG g=true) (hm:m.length+(e.2.2.1.length+1)<=1000000000) (he:e.2.2.1.length<=1000000):Zjw c g m e=true/\ZlV c g m e=wrE c g m e:=by
 have hms:=mst
 have hcl:=Zwe c e
 obtain⟨y,hy⟩:∃y,Za8 c e=y:=⟨_,rfl⟩
 rw[hy] at hcl
 obtain⟨r,hr,h1⟩:=ZM (fl:=false) (t:=Zer) (fuel:=λ_=>1000000000000)
  (λa=>∃i:Nat,i<=y.length/\a=(g,wrL g m (y.take i),y,(y.length:Int),(i:Int),c,e,()))
  (λa=>Int.toNat (a.2.2.2.1-a.2.2.2.2.1)) (λr=>r=(false,(g,wrL g m y,y,(y.length:Int),(y.length:Int),c,e,())))
  (by
   rintro a ⟨i,hi,rfl⟩
   by_cases hlt:i<y.length
   ·left
    have d:decide ((i:Int)<(y.length:Int))=true:=decide_eq_true (by omega)
    have hin:Zf (i:Int) y.length=true:=ZI.2 ⟨by omega,by omega⟩
    have w:IntKind.wrap .i64 ((i:Int)+1)=((i+1:Nat):Int):=by rw[wrap_i64 _ (by omega) (by omega)];omega
    have hl:=ZzG g (y.take i) m
    have hc:smC (wrL g m (y.take i))=true:=smCm (by rw[List.length_take] at hl;omega)
    refine⟨(g,wrL g m (y.take (i+1)),y,(y.length:Int),((i+1:Nat):Int),c,e,()),?_,⟨i+1,by omega,rfl⟩,by simp only;omega⟩
    rw[ZXd g m y i hlt]
    simp only[Zer,RT.val,d,hin,w,hg,hc,Bool.and_self,Bool.or_true,cond_true]
    rfl
   ·right;left
    have e1:i=y.length:=by omega
    subst e1
    have d:decide ((y.length:Int)<(y.length:Int))=false:=decide_eq_false (by omega)
    refine⟨(g,wrL g m y,y,(y.length:Int),(y.length:Int),c,e,()),?_,rfl⟩
    rw[List.take_length]
    simp only[Zer,RT.val,d,cond_false])
  (g,m,y,(y.length:Int),0,c,e,()) ⟨0,Nat.zero_le _,rfl⟩ (by simp only;omega)
 rw[h1] at hr
 have hre:ZsL e=true:=Zav he
 have hc0:smC m=true:=smCm (by omega)
 have hv:(ZgM c g m e).val=some (wrE c g m e):=by
  unfold ZgM wrE
  simp only[RT.val,hy,iN,hr,hre,hg,hc0,okB,getO,Bool.and_self,Bool.or_true,cond_true]
  cases e.1==5<;>rfl
 exact⟨by simp only[Zjw,hv];rfl,by simp only[ZlV,hv,getO]⟩
theorem mem_b (c:TC) (g:List GT) (m:List Cell) (l:List EVTT) (hg:smG g=true) (hm:m.length+wgh l<=1000000000) (hl:∀e∈l,e.2.2.1.length<=1000000) (hn:l.length<=1000000):
  Zwm c g m l=true/\ZD6 c g m l=memX c g m l:=by
 have hms:=mst
 have hnl:=Zdj m
 obtain⟨r,hr,z,h1⟩:=ZM (fl:=false) (t:=Zfd) (fuel:=λ_=>1000000000000)
  (λa=>∃(i:Nat) (c':TC) (m':List Cell),i<=l.length/\m'.length+wgh (l.drop i)<=1000000000/\memF g c' m' (l.drop i)=memX c g m l/\a=(g,m',l,(l.length:Int),(i:Int),c',()))
  (λa=>Int.toNat (a.2.2.2.1-a.2.2.2.2.1)) (λr=>∃z,r=(false,(g,memX c g m l,l,(l.length:Int),(l.length:Int),z,())))
  (by
   rintro a ⟨i,c',m',hi,hw,hf,rfl⟩
   by_cases hlt:i<l.length
   ·left
    have d:decide ((i:Int)<(l.length:Int))=true:=decide_eq_true (by omega)
    have hin:Zf (i:Int) l.length=true:=ZI.2 ⟨by omega,by omega⟩
    have w:IntKind.wrap .i64 ((i:Int)+1)=((i+1:Nat):Int):=by rw[wrap_i64 _ (by omega) (by omega)];omega
    have hmem:R.get Zbh l (i:Int)∈l:=by
     have:R.get Zbh l (i:Int)=l[i]:=by simp[R.get,List.getElem?_eq_getElem hlt]
     rw[this];exact List.getElem_mem _
    rw[ZSr l i hlt] at hw
    obtain⟨k1,k2⟩:=wr_b c' g m' (R.get Zbh l (i:Int)) hg (by omega) (hl _ hmem)
    have hlen:=ZXf c' g m' (R.get Zbh l (i:Int))
    rw[ZDV (r:=Zbh) l i hlt] at hf
    refine⟨(g,wrE c' g m' (R.get Zbh l (i:Int)),l,(l.length:Int),((i+1:Nat):Int),ZaZ c' (R.get Zbh l (i:Int)),()),?_,⟨i+1,_,_,by omega,by omega,hf,rfl⟩,by simp only;omega⟩
    simp only[Zfd,RT.val,d,hin,w,k1,k2,Bool.or_true,cond_true]
   ·right;left
    have e1:i=l.length:=by omega
    subst e1
    have d:decide ((l.length:Int)<(l.length:Int))=false:=decide_eq_false (by omega)
    rw[List.drop_length] at hf
    refine⟨(g,memX c g m l,l,(l.length:Int),(l.length:Int),c',()),?_,c',rfl⟩
    rw[<-hf]
    simp only[Zfd,RT.val,d,cond_false,memF])
  (g,normX m,l,(l.length:Int),0,c,()) ⟨0,c,normX m,Nat.zero_le _,by rw[List.drop_zero];omega,rfl,rfl⟩ (by simp only;omega)
 rw[h1] at hr
 have hc0:smC m=true:=smCm (by omega)
 have hv:(Zjz c g m l).val=some (memX c g m l):=by
  simp only[Zjz,RT.val,iN,hr,hc0,okB,getO,cond_true]
 exact⟨by simp only[Zwm,hv];rfl,by simp only[ZD6,hv,getO]⟩
def ZTe (g:List GT) (m:List Cell) (l:List EVTT):Bool:=smG g&&(Nat.ble (m.length+wgh l) 1000000000&&(Nat.ble l.length 1000000&&l.all ZsL))
theorem ZNo {g:List GT} {m:List Cell} {l:List EVTT}:ZTe g m l=true↔smG g=true/\m.length+wgh l<=1000000000/\l.length<=1000000/\∀e∈l,e.2.2.1.length<=1000000:=by
 simp only[ZTe,ZsL,Bool.and_eq_true,Nat.ble_eq,List.all_eq_true]
def Zzx:Entry:=Zg Zp0 ZjA (λa=>some (ZTe a.2.1 a.2.2.1 a.2.2.2)) (λa=>memX a.1 a.2.1 a.2.2.1 a.2.2.2)
theorem ZD5:Za Tryz.prog 58 Zzx:=Zit ZK7 λa h=>by
 obtain⟨h1,h2,h3,h4⟩:=ZNo.1 h
 exact mem_b a.1 a.2.1 a.2.2.1 a.2.2.2 h1 h2 h4 h3
end
end Go.Proofs.YtghoimllhpjkjaaGreat
