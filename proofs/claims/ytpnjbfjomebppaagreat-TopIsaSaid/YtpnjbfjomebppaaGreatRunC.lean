import Derived.Test.YtpnjbfjomebppaaGreatIsaE
open Go Go.S3 Go.Proofs Go.Proofs.Cells
set_option linter.unusedVariables false
set_option linter.unusedSimpArgs false
set_option maxRecDepth 100000
namespace Go.Proofs.YtpnjbfjomebppaaGreat
noncomputable section
def czX:CpuT:=(0,(0,0,0,0,0,0,0,(false,false,false,false,false,false,false),0,0),false,false,false,0,false,false,false,false,false,false,false)
def ZiR (rg:List ZG) (m:List Cell) (ins:List Int):MacT:=(rg,normX m,ins,[])
def limK (k:Int):Int:=if 10000<k then 10000 else k
def runR (c:CpuT) (rg:List ZG) (m:List Cell) (ins:List Int) (k:Int):CpuT×List Cell×List (Int×Int)×Int:=
 let r:=runX (limK k).toNat c (ZiR rg m ins) 0
 (r.1,r.2.1.2.1,r.2.1.2.2.2,r.2.2)
theorem i_run (c:CpuT) (rg:List ZG) (m:List Cell) (ins:List Int) (k:Int) (hr:smG rg=true) (hm:m.length+100000<=most):
  ZXw c rg m ins k=true/\iRun c rg m ins k=runR c rg m ins k:=by
 have hms:=mst;have hl:=Zcx m;have hs:smC m=true:=by show sm m=true;rw[Zm5];omega
 have hk:(limK k).toNat<=10000:=by unfold limK;split<;>omega
 obtain⟨r,h1,h2⟩:=ZA (fl:=false) (t:=ZkY) (fuel:=λ_=>20000)
  (λa=>∃(n:Nat) (c':CpuT) (M:MacT) (u:Nat),a=(k,(u:Int),c',czX,rg,M.2.1,M.2.2.1,M.2.2.2,())/\M.1=rg/\n+u=(limK k).toNat/\runX n c' M u=runX (limK k).toNat c (ZiR rg m ins) 0/\M.2.1.length<=m.length+6*u/\M.2.2.2.length<=6*u)
  (λa=>10001-Int.toNat a.2.1) (λr=>∃rest,r=(false,(k,(runX (limK k).toNat c (ZiR rg m ins) 0).2.2,(runX (limK k).toNat c (ZiR rg m ins) 0).1,czX,rg,(runX (limK k).toNat c (ZiR rg m ins) 0).2.1.2.1,rest,(runX (limK k).toNat c (ZiR rg m ins) 0).2.1.2.2.2,())))
  (by
   rintro a ⟨n,c',M,u,rfl,hM,hn,hR,hq1,hq2⟩;have hMe:M=(rg,M.2.1,M.2.2.1,M.2.2.2):=by rw[<-hM]
   have hlt:decide ((u:Int)<limK k)=decide (0<n):=by
    by_cases h0:0<n
    ·rw[Yq h0,Yq];omega
    ·rw[Yx h0,Yx];omega
   cases n with
   |zero=>
    right;left;refine⟨(k,(u:Int),c',czX,rg,M.2.1,M.2.2.1,M.2.2.2,()),?_,M.2.2.1,?_⟩
    ·have:(decide ((u:Int)<if 10000<k then 10000 else k)&& !c'.2.2.2.2.1)=false:=by show (decide ((u:Int)<limK k)&&_)=false;rw[hlt];rfl
     simp only[ZkY,RT.val,this,Yb]
    ·rw[<-hR];rfl
   |succ n=>
    rw[ZQ6] at hR;cases hh:c'.2.2.2.2.1 with
    |true=>
     right;left;refine⟨(k,(u:Int),c',czX,rg,M.2.1,M.2.2.1,M.2.2.2,()),?_,M.2.2.1,?_⟩
     ·have:(decide ((u:Int)<if 10000<k then 10000 else k)&& !c'.2.2.2.2.1)=false:=by rw[hh];simp
      simp only[ZkY,RT.val,this,Yb]
     ·rw[hh,Ya] at hR;rw[<-hR]
    |false=>
     left;rw[hh,Yb] at hR;obtain⟨r,h1,h2⟩:=ZZv ([],c',czX,czX) (Zj c' 0) 0 noL M (by rw[hM];exact hr) (by omega) (by omega);subst h2;rw[hM] at h1;simp only[noL,czX] at h1;have hc:(decide ((u:Int)<if 10000<k then 10000 else k)&& !c'.2.2.2.2.1)=true:=by show (decide ((u:Int)<limK k)&&_)=true;rw[hlt,hh];simp
     have gi:=ZUA (Zj c' 0) 0 6 [] M;refine⟨(k,((u+1:Nat):Int),(ZiQ c' 0 noL M).1,czX,rg,(ZiQ c' 0 noL M).2.1.2.1,(ZiQ c' 0 noL M).2.1.2.2.1,(ZiQ c' 0 noL M).2.1.2.2.2,()),?_,⟨n,(ZiQ c' 0 noL M).1,(ZiQ c' 0 noL M).2.1,u+1,rfl,?_,by omega,?_,?_,?_⟩,?_⟩
     ·simp only[ZkY,RT.val,hc,czX,h1,okB,getO,Ya];rw[ZhO u (by omega)];rfl
     ·exact gi.1.trans hM
     ·exact hR
     ·have:=gi.2.2.1;simp only[ZiQ];omega
     ·have:=gi.2.2.2.2;simp only[ZiQ];omega
     ·simp only;omega)
  (k,0,c,czX,rg,normX m,ins,[],()) ⟨(limK k).toNat,c,ZiR rg m ins,0,rfl,rfl,by omega,rfl,by show (normX m).length<=_;omega,by simp[ZiR]⟩ (by simp)
 obtain⟨rest,rfl⟩:=h2;simp only[czX] at h1;have hv:(ZPb c rg m ins k).val=some (runR c rg m ins k):=by simp only[ZPb,RT.val,hs,h1,okB,getO,Ya];rfl
 exact⟨by simp only[ZXw,hv];rfl,by simp only[iRun,hv,getO]⟩
def ZKW (m:List (Int×Int)):Bool:=Nat.ble (m.length+100000) most
theorem Zww {m:List (Int×Int)}:ZKW m=true↔m.length+100000<=most:=by simp[ZKW]
def ZPe:En:=Zi ZPa ZGi (λa=>some (smG a.2.1&&ZKW a.2.2.1)) (λa=>runR a.1 a.2.1 a.2.2.1 a.2.2.2.1 a.2.2.2.2)
theorem ZGj:Zb Tryz.prog 32 ZPe:=ZlG ZXu λa h=>by rw[Yc] at h;exact i_run a.1 a.2.1 a.2.2.1 a.2.2.2.1 a.2.2.2.2 h.1 (Zww.1 h.2)
end
end Go.Proofs.YtpnjbfjomebppaaGreat
open Go Go.S3 Go.Proofs
namespace Go.Proofs.YtpnjbfjomebppaaGreat
noncomputable section
theorem lval9 {t:RT (Option Bool)} (h:t.val=some true):okB t.val=true/\getO false t.val=true:=by rw[h];exact⟨rfl,rfl⟩
theorem ZJy (b:BRDT) (hg:smG b.2.1=true) (hm:smC b.2.2.2.2.2.2=true) (h:ZbR b=0):vldB b.2.2.2.2.2.2=true:=by
 have hv:(ZfC b).val=some (bif b.1 !=1&&b.1 !=2 then 1 else bif ZbO b.2.1 !=0 then ZbO b.2.1 else bif decide (b.2.2.1<0)||(decide (b.2.2.1>100)|| !vldB b.2.2.2.2.2.2) then 1 else 0):=by
  unfold ZfC;simp only[RT.val,hg,hm,Yi,Ya];cases b.1 !=1&&b.1 !=2
  ·cases ZbO b.2.1 !=0
   ·cases decide (b.2.2.1<0)||(decide (b.2.2.1>100)|| !vldB b.2.2.2.2.2.2)<;>rfl
   ·rfl
  ·rfl
 simp only[ZbR,hv,getO] at h;cases hx:vldB b.2.2.2.2.2.2
 ·rw[hx] at h;simp only[Yl,Yi,Ya] at h;cases h1:b.1 !=1&&b.1 !=2
  ·rw[h1] at h;cases h2:ZbO b.2.1 !=0
   ·rw[h2] at h;simp at h
   ·rw[h2] at h;simp only[Ya,Yb] at h;rw[h] at h2;simp at h2
  ·rw[h1] at h;simp at h
 ·rfl
theorem eqf_refl:∀(r:R) (x:r.den) (e:Bool),R.eqf r x x e=e
 | .int _,x,e=>by show (((x:Int)==x)&&e)=e;rw[YaN,YT]
 | .bool,x,e=>by show (((x:Bool)==x)&&e)=e;rw[YaN,YT]
 | .Pq a b,x,e=>by show a.eqf x.1 x.1 (b.eqf x.2 x.2 e)=e;rw[eqf_refl b,eqf_refl a]
 | .str,_,e=>rfl
 | .sl _,_,e=>rfl
 | .unit,_,e=>rfl
end
end Go.Proofs.YtpnjbfjomebppaaGreat
open Go.Proofs.Tryz (prog)
open Go.IntKind (u8 u16 i64)
namespace Go.Proofs.YtpnjbfjomebppaaGreat
noncomputable section
abbrev ZrS:List Sh:=[Sh.agg Z8,So rcRG,So rcCE,Sh.agg ZaA]
def ZDk:LS:={n:=48,Sl:=[(1,.code (So rcRG)),(2,.code (So rcCE)),(25,.code (So (R.sl (RY)))),(26,.code (So Kc)),(27,.code (So Kc))],Bx:=[[.many Z8],[.many ZaA]],Sg:=[]}
def ZeL (a:List (QT4)×List (Int×Int)×List TY×Int×Int×TC×EVTT×PUnit):RT (Option (Go1 (List (QT4)×List (Int×Int)×List TY×Int×Int×TC×EVTT×PUnit))):=
 let x1:QT18:=R.get (RY) a.2.2.1 a.2.2.2.2.1
 let x2:=x1.1
 let x3:=x2==3||x2==5
 let x4:=x1.2
 let x5:TC×EVTT×PUnit:=(a.2.2.2.2.2.1,a.2.2.2.2.2.2.1,PUnit.unit)
 .br (decide (a.2.2.2.2.1<a.2.2.2.1)) (.br (!Zf a.2.2.2.2.1 (Le a.2.2.1)||(!x3||smG a.1&&smC a.2.1)) (.br (Zf a.2.2.2.2.1 (Le a.2.2.1)) (Ls (Go1.cont (a.1,bif x3 then ZaL a.1 a.2.1 x4.1 x4.2.1 else a.2.1,a.2.2.1,a.2.2.2.1,i64.wrap (a.2.2.2.2.1+1),x5))) Ln) Ln) (Ls (Go1.brk (a.1,a.2.1,a.2.2.1,a.2.2.2.1,a.2.2.2.2.1,x5)))
def Zqa:Ora:=ZaY false ZDk ZeL (λa=>1000000000000)
theorem ZvE:ZaB (envX prog [(27,ZeN),(143,ZcU)] [] 2047 8) (.block 0 (.loop (ZX Tryz.f91.body 0))) Zqa:=
 loopP ⟨ZeM,Zep,Tv⟩
def Zhe (c:TC) (rg:List (QT4)) (m:List (Int×Int)) (e:EVTT):RT (Option (List (Int×Int))):=
 let x1:List (QT4)×List (Int×Int)×List TY×Int×Int×TC×EVTT×PUnit:=(rg,m,ZR c e,iN (Le (ZR c e)),0,c,e,())
 let x2:=runF false ZeL (λa=>1000000000000) x1
 .br (!e.1==5||smG rg&&smC m) (.br (e.1==5) (Ls (ZaL rg m e.2.2.2.2.2.2.2.2.1 e.2.2.2.2.2.2.2.2.2)) (.br (Zz6 e) (.br (okB x2) (Ls (getO (false,x1) x2).2.2.1) Ln) Ln)) Ln
def ZmA (c:TC) (rg:List (QT4)) (m:List (Int×Int)) (e:EVTT):List (Int×Int):=getO Zu9.Df (Zhe c rg m e).val
def Zj3 (c:TC) (rg:List (QT4)) (m:List (Int×Int)) (e:EVTT):Bool:=okB (Zhe c rg m e).val
def Zqb:En:=Zi ZrS Zu9 (λa=>some (Zj3 a.1 a.2.1 a.2.2.1 a.2.2.2)) (λa=>ZmA a.1 a.2.1 a.2.2.1 a.2.2.2)
theorem Zp9:Zb prog 91 Zqb:=
 pureP 2047 [(27,ZeN),(143,ZcU)] [(0,Zqa)] _ _ ⟨ZeM,Zep,Tv⟩ Tryz.func91 Tryz.call91 ⟨ZvE,Tv⟩
abbrev Zzq:List Sh:=[Sh.agg Z8,So rcRG,So rcCE,So (R.sl ZaA)]
def ZJb:LS:={n:=29,Sl:=[(1,.code (So rcRG)),(2,.code (So rcCE)),(4,.fix (A.loc 0 0)),(13,.code (So (R.sl ZaA))),(14,.code (So Kc)),(15,.code (So Kc))],Bx:=[[.many Z8]],Sg:=[]}
def ZfA (a:List (QT4)×List (Int×Int)×List EVTT×Int×Int×TC×PUnit):RT (Option (Go1 (List (QT4)×List (Int×Int)×List EVTT×Int×Int×TC×PUnit))):=
 let x1:EVTT:=R.get ZaA a.2.2.1 a.2.2.2.2.1
 .br (decide (a.2.2.2.2.1<a.2.2.2.1)) (.br (!Zf a.2.2.2.2.1 (Le a.2.2.1)||Zj3 a.2.2.2.2.2.1 a.1 a.2.1 x1) (.br (Zf a.2.2.2.2.1 (Le a.2.2.1)) (Ls (Go1.cont (a.1,ZmA a.2.2.2.2.2.1 a.1 a.2.1 x1,a.2.2.1,a.2.2.2.1,i64.wrap (a.2.2.2.2.1+1),Z7 a.2.2.2.2.2.1 x1,PUnit.unit))) Ln) Ln) (Ls (Go1.brk (a.1,a.2.1,a.2.2.1,a.2.2.2.1,a.2.2.2.2.1,a.2.2.2.2.2.1,PUnit.unit)))
def ZrU:Ora:=ZaY false ZJb ZfA (λa=>1000000000000)
theorem Zzr:ZaB (envX prog [(28,Zgb),(90,Zpo),(91,Zqb)] [] 2047 8) (.block 0 (.loop (ZX Tryz.f35.body 0))) ZrU:=
 loopP ⟨ZfB,Zpn,Zp9,Tv⟩
def Zj4 (c:TC) (rg:List (QT4)) (m:List (Int×Int)) (l:List EVTT):RT (Option (List (Int×Int))):=
 let x1:List (QT4)×List (Int×Int)×List EVTT×Int×Int×TC×PUnit:=(rg,Cells.normX m,l,iN (Le l),0,c,())
 let x2:=runF false ZfA (λa=>1000000000000) x1
 .br (smC m) (.br (okB x2) (Ls (getO (false,x1) x2).2.2.1) Ln) Ln
def ZvG (c:TC) (rg:List (QT4)) (m:List (Int×Int)) (l:List EVTT):List (Int×Int):=getO Zu9.Df (Zj4 c rg m l).val
def ZmB (c:TC) (rg:List (QT4)) (m:List (Int×Int)) (l:List EVTT):Bool:=okB (Zj4 c rg m l).val
def ZvF:En:=Zi Zzq Zu9 (λa=>some (ZmB a.1 a.2.1 a.2.2.1 a.2.2.2)) (λa=>ZvG a.1 a.2.1 a.2.2.1 a.2.2.2)
theorem ZrT:Zb prog 35 ZvF:=
 pureP 2047 [(28,Zgb),(90,Zpo),(91,Zqb)] [(0,ZrU)] _ _ ⟨ZfB,Zpn,Zp9,Tv⟩ Tryz.func35 Tryz.call35 ⟨Zzr,Tv⟩
def ZXk (b:BRDT):RT TC:=
 let x1:TR:=(0,0,0,0,0,0,0,(false,false,false,false,false,false,false),0,0)
 let x2:=ZC (b.1,x1,false,false,false,0,false,false,false,false,false,false,false)
 .Lf ((x2.1,x1,false,false,false,x2.2.2.2.2.2.1,false,false,false,false,false,false,false))
def Zbg (b:BRDT):TC:=(ZXk b).val
abbrev GT:=QT4
def wrY (g:List GT) (m:List Cell) (x:TY):List Cell:=bif x.1==3||x.1==5 then ZaL g m x.2.1 x.2.2.1 else m
def wrL (g:List GT) (m:List Cell) (l:List TY):List Cell:=l.foldl (wrY g) m
def wrE (c:TC) (g:List GT) (m:List Cell) (e:EVTT):List Cell:=bif e.1==5 then ZaL g m e.2.2.2.2.2.2.2.2.1 e.2.2.2.2.2.2.2.2.2 else wrL g m (ZR c e)
def memF (g:List GT):TC->List Cell->List EVTT->List Cell
 |_,m,[]=>m
 |c,m,e::l=>memF g (Z7 c e) (wrE c g m e) l
def memX (c:TC) (g:List GT) (m:List Cell) (l:List EVTT):List Cell:=memF g c (normX m) l
def wgh:List EVTT->Nat
 |[]=>0
 |e::l=>e.2.2.1.length+1+wgh l
theorem ZUW (g:List GT) (m:List Cell) (x:TY):(wrY g m x).length<=m.length+1:=by
 have:=Ze8 g m x.2.1 x.2.2.1;unfold wrY;cases x.1==3||x.1==5
 ·exact YaJ _
 ·exact this
theorem Zr0 (g:List GT):∀(l:List TY) (m:List Cell),(wrL g m l).length<=m.length+l.length
 |[],m=>Ye _
 |x::l,m=>by have h1:=Zr0 g l (wrY g m x);have h2:=ZUW g m x;show (wrL g (wrY g m x) l).length<=_;simp only[List.length_cons];omega
theorem ZjS (c:TC) (e:EVTT):(ZR c e).length<=e.2.2.1.length:=by
 unfold ZR;cases cycE e.1
 ·exact Yr _
 ·exact ZPX _ _ _ _
theorem ZUY (c:TC) (g:List GT) (m:List Cell) (e:EVTT):(wrE c g m e).length<=m.length+(e.2.2.1.length+1):=by have h1:=Ze8 g m e.2.2.2.2.2.2.2.2.1 e.2.2.2.2.2.2.2.2.2;have h2:=Zr0 g (ZR c e) m;have h3:=ZjS c e;unfold wrE;cases e.1==5<;>simp only[Ya,Yb]<;>omega
theorem ZQt (l:List EVTT) (i:Nat) (h:i<l.length):wgh (l.drop i)=(R.get ZaA l (i:Int)).2.2.1.length+1+wgh (l.drop (i+1)):=by rw[ZPG (r:=ZaA) l i h];rfl
theorem ZUU (g:List GT) (m:List Cell) (l:List TY) (i:Nat) (h:i<l.length):wrL g m (l.take (i+1))=wrY g (wrL g m (l.take i)) (R.get RY l (i:Int)):=by rw[Zkj (r:=RY) l i h];unfold wrL;rw[Yak];rfl
theorem smCm {l:List Cell} (h:l.length<=1000000000):smC l=true:=ZaE (by have:=mst;omega)
theorem wr_b (c:TC) (g:List GT) (m:List Cell) (e:EVTT) (hg:smG g=true) (hm:m.length+(e.2.2.1.length+1)<=1000000000) (he:e.2.2.1.length<=1000000):Zj3 c g m e=true/\ZmA c g m e=wrE c g m e:=by
 have hms:=mst;have hcl:=ZjS c e;obtain⟨y,hy⟩:∃y,ZR c e=y:=⟨_,rfl⟩;rw[hy] at hcl;obtain⟨r,hr,h1⟩:=ZA (fl:=false) (t:=ZeL) (fuel:=λ_=>1000000000000)
  (λa=>∃i:Nat,i<=y.length/\a=(g,wrL g m (y.take i),y,(y.length:Int),(i:Int),c,e,()))
  (λa=>Int.toNat (a.2.2.2.1-a.2.2.2.2.1)) (λr=>r=(false,(g,wrL g m y,y,(y.length:Int),(y.length:Int),c,e,())))
  (by
   rintro a ⟨i,hi,rfl⟩;by_cases hlt:i<y.length
   ·left;have d:decide ((i:Int)<(y.length:Int))=true:=Yq (by omega);have hin:Zf (i:Int) y.length=true:=ZT.2 ⟨by omega,by omega⟩;have w:IntKind.wrap .i64 ((i:Int)+1)=((i+1:Nat):Int):=by rw[wrap_i64 _ (by omega) (by omega)];omega
    have hl:=Zr0 g (y.take i) m;have hc:smC (wrL g m (y.take i))=true:=smCm (by rw[YF] at hl;omega);refine⟨(g,wrL g m (y.take (i+1)),y,(y.length:Int),((i+1:Nat):Int),c,e,()),?_,⟨i+1,by omega,rfl⟩,by simp only;omega⟩;rw[ZUU g m y i hlt];simp only[ZeL,RT.val,d,hin,w,hg,hc,Y0,Yi,Ya];rfl
   ·right;left;have e1:i=y.length:=by omega
    subst e1;have d:decide ((y.length:Int)<(y.length:Int))=false:=Yx (by omega);refine⟨(g,wrL g m y,y,(y.length:Int),(y.length:Int),c,e,()),?_,rfl⟩;rw[YaC]
    simp only[ZeL,RT.val,d,Yb])
  (g,m,y,(y.length:Int),0,c,e,()) ⟨0,Yr _,rfl⟩ (by simp only;omega)
 rw[h1] at hr;have hre:Zz6 e=true:=ZaE he;have hc0:smC m=true:=smCm (by omega);have hv:(Zhe c g m e).val=some (wrE c g m e):=by unfold Zhe wrE;simp only[RT.val,hy,iN,Le,hr,hre,hg,hc0,okB,getO,Y0,Yi,Ya];cases e.1==5<;>rfl
 exact⟨by simp only[Zj3,hv];rfl,by simp only[ZmA,hv,getO]⟩
theorem mem_b (c:TC) (g:List GT) (m:List Cell) (l:List EVTT) (hg:smG g=true) (hm:m.length+wgh l<=1000000000) (hl:∀e∈l,e.2.2.1.length<=1000000) (hn:l.length<=1000000):
  ZmB c g m l=true/\ZvG c g m l=memX c g m l:=by
 have hms:=mst;have hnl:=Zcx m;obtain⟨r,hr,z,h1⟩:=ZA (fl:=false) (t:=ZfA) (fuel:=λ_=>1000000000000)
  (λa=>∃(i:Nat) (c':TC) (m':List Cell),i<=l.length/\m'.length+wgh (l.drop i)<=1000000000/\memF g c' m' (l.drop i)=memX c g m l/\a=(g,m',l,(l.length:Int),(i:Int),c',()))
  (λa=>Int.toNat (a.2.2.2.1-a.2.2.2.2.1)) (λr=>∃z,r=(false,(g,memX c g m l,l,(l.length:Int),(l.length:Int),z,())))
  (by
   rintro a ⟨i,c',m',hi,hw,hf,rfl⟩;by_cases hlt:i<l.length
   ·left;have d:decide ((i:Int)<(l.length:Int))=true:=Yq (by omega);have hin:Zf (i:Int) l.length=true:=ZT.2 ⟨by omega,by omega⟩;have w:IntKind.wrap .i64 ((i:Int)+1)=((i+1:Nat):Int):=by rw[wrap_i64 _ (by omega) (by omega)];omega
    have hmem:R.get ZaA l (i:Int)∈l:=by
     have:R.get ZaA l (i:Int)=l[i]:=by simp[R.get,Yh hlt]
     rw[this];exact YaM _
    rw[ZQt l i hlt] at hw;obtain⟨k1,k2⟩:=wr_b c' g m' (R.get ZaA l (i:Int)) hg (by omega) (hl _ hmem);have hlen:=ZUY c' g m' (R.get ZaA l (i:Int));rw[ZPG (r:=ZaA) l i hlt] at hf;refine⟨(g,wrE c' g m' (R.get ZaA l (i:Int)),l,(l.length:Int),((i+1:Nat):Int),Z7 c' (R.get ZaA l (i:Int)),()),?_,⟨i+1,_,_,by omega,by omega,hf,rfl⟩,by simp only;omega⟩;simp only[ZfA,RT.val,d,hin,w,k1,k2,Yi,Ya]
   ·right;left;have e1:i=l.length:=by omega
    subst e1;have d:decide ((l.length:Int)<(l.length:Int))=false:=Yx (by omega);rw[List.drop_length] at hf;refine⟨(g,memX c g m l,l,(l.length:Int),(l.length:Int),c',()),?_,c',rfl⟩;rw[<-hf]
    simp only[ZfA,RT.val,d,Yb,memF])
  (g,normX m,l,(l.length:Int),0,c,()) ⟨0,c,normX m,Yr _,by rw[List.drop_zero];omega,rfl,rfl⟩ (by simp only;omega)
 rw[h1] at hr;have hc0:smC m=true:=smCm (by omega);have hv:(Zj4 c g m l).val=some (memX c g m l):=by simp only[Zj4,RT.val,iN,Le,hr,hc0,okB,getO,Ya]
 exact⟨by simp only[ZmB,hv];rfl,by simp only[ZvG,hv,getO]⟩
theorem Zbq (e:EVTT) (c:TC) (l:LINT):Ze1 e c l=(e.1,e.2.1,e.2.2.1,l,c.2.2.2.2.2.2.2.1,c.2.2.2.2.2.2.1,c.2.2.2.2.2.2.2.2.2.1,c.2.2.2.2.2.2.2.2.1,e.2.2.2.2.2.2.2.2):=rfl
def EvB (ev:List EVTT) (n:Nat):Prop:=∀e∈ev,e.2.2.1.length<=n
variable {ev:List EVTT} {n:Nat}
theorem EvB.app (h:EvB ev n) {e:EVTT} (he:e.2.2.1.length<=n):EvB (ev++[e]) n:=λx hx=>by
 rcases Y1.1 hx with hx|hx
 ·exact h x hx
 ·rw[Yac] at hx;subst hx;exact he
theorem EvB.mono {m:Nat} (h:EvB ev n) (hn:n<=m):EvB ev m:=λe he=>Yz (h e he) hn
theorem ZI5 (c:CORT) (t d:Int):(Zb7 c t d).length<=c.2.2.1.length+1:=by unfold Zb7;cases t==3<;>simp
theorem evE_b (h:EvB ev n) (c:CORT) (hc:c.2.2.1.length<=n) (l:LINT) (d:Int) (cell:Cell) (moved:Bool):EvB (evE ev c l d cell moved) (n+1):=by
 have h1:=h.mono (YaJ n);have h2:=ZI5 c (Zp c) d;have e1:EvB (bif (finS c l d).2 then ev++[Ze1 (Zgh c.2.1,c.2.1,Zb7 c (Zp c) d,ZdI,false,false,false,false,0,0) (Zg c.1 l) l] else ev) (n+1):=by
  cases (finS c l d).2
  ·exact h1
  ·exact h1.app (by rw[Zbq];show (Zb7 c (Zp c) d).length<=_;omega)
 have e2:EvB (bif Zdx c then ev++[Ze1 (6,c.2.1,c.2.2.1,ZdI,false,false,false,false,0,0) c.1 l] else ev) (n+1):=by
  cases Zdx c
  ·exact h1
  ·exact h1.app (by rw[Zbq];show c.2.2.1.length<=_;omega)
 unfold evE;dsimp only;cases l.2.2.1
 ·cases moved
  ·exact e1
  ·exact e1.app (Yr _)
 ·exact e2.app (by rw[Zbq];exact Yr _)
theorem ZUD (b:BRDT) (Zal:TC):∀(l:List INPT) (st:STT) (n:Nat),RunOk b st n->EvB st.2.2.2.1 n->EvB (ZbU b Zal st l).2.2.2.1 (n+l.length)
 |[],st,n,h,he=>he
 |i::l,st,n,h,he=>by have:=ZUD b Zal l (Zas b Zal st i) (n+1) (ZD6 b Zal st i n h) (evE_b he st.1.1 h.k _ _ _ _);rw[show n+(i::l).length=n+1+l.length by simp;omega];exact this
theorem wgh_b (l:List EVTT) (n:Nat) (h:EvB l n):wgh l<=l.length*(n+1):=by
 induction l with
 |nil=>exact Yr _
 |cons e l ih=>
  have h1:=h e Yau;have h2:=ih λe he=>h e (YA _ he)
  simp only[wgh,List.length_cons,Yaz];omega
theorem ZTQ (b:BRDT) (l:List INPT) (hg:smG b.2.1=true) (hm:b.2.2.2.2.2.2.length<=100000) (hl:l.length<=1000):
  (Zco b l).1.2.2.1.length<=2001/\EvB (Zco b l).1.2.2.1 1000/\(Zco b l).1.2.2.2.1.length<=2001:=by
 obtain⟨_,_,h0⟩:=Zgq b hg hm;unfold Zco;cases hx:(wNew b).2 !=0
 ·have h0:=(h0 (by simpa using hx)).1;have hf:=Zk5 b (ZN b) l (ZaN b) 0 h0;have hb:=ZUD b (ZN b) l (ZaN b) 0 h0 (λe he=>by simp[ZaN] at he);rw[Yw] at hf hb;have h1:=hf.ev;have h2:=hf.k;have h3:=hf.cp;have hb:=hb.mono hl;show (endS (ZN b) (ZbU b (ZN b) (ZaN b) l)).2.2.1.length<=2001/\EvB (endS (ZN b) (ZbU b (ZN b) (ZaN b) l)).2.2.1 1000/\(endS (ZN b) (ZbU b (ZN b) (ZaN b) l)).2.2.2.1.length<=2001;unfold endS;cases Zdx (ZbU b (ZN b) (ZaN b) l).1.1
  ·exact⟨by simp only[Yb];omega,hb,by simp only[Yb];omega⟩
  ·refine⟨by simp;omega,hb.app (by show (ZbU b (ZN b) (ZaN b) l).1.1.2.2.1.length<=_;omega),by simp;omega⟩
 ·exact⟨by simp,λe he=>by simp at he,by simp⟩
def cyA:TC->List EVTT->List TY
 |_,[]=>[]
 |c,e::l=>ZR c e++cyA (Z7 c e) l
theorem ZdE (c:TC) (l:List EVTT) (e:EVTT):ZH c (l++[e])=Z7 (ZH c l) e:=by unfold ZH;rw[Yak];rfl
theorem Ziz:∀(l:List EVTT) (c:TC) (e:EVTT),cyA c (l++[e])=cyA c l++ZR (ZH c l) e
 |[],c,e=>by simp[cyA,ZH]
 |x::l,c,e=>by have:=Ziz l (Z7 c x) e;simp only[List.cons_append,cyA,this,Yn];rfl
theorem Zek:∀(l:List EVTT) (c:TC) (e:EVTT),ZgF c (l++[e])=ZgF c l++[Z7 (ZH c l) e]
 |[],c,e=>rfl
 |x::l,c,e=>by have:=Zek l (Z7 c x) e;simp only[List.cons_append,ZgF,this];rfl
theorem ZkR (c:TC) (l:List EVTT):ZlK c (ZgF c l)=ZH c l:=by
 rcases Y8 l with rfl|⟨l',e,rfl⟩
 ·rfl
 ·rw[Y4,Zek,ZdE];simp[ZlK]
def cyI (l:List ITMT):List TY:=(l.filter λy=>y.1==1&&decide (y.2.2.2.1>=3)).map λy=>y.2.1
theorem ZbG (l:List ITMT) (y:ITMT):cyI (l++[y])=cyI l++(bif y.1==1&&decide (y.2.2.2.1>=3) then [y.2.1] else []):=by unfold cyI;rw[YaT,List.map_append];cases h:y.1==1&&decide (y.2.2.2.1>=3)<;>simp[List.filter,h]
def unl (c:TC):Int×(Int×Int×Int×Int×Int×Int×Int×(Bool×Bool×Bool×Bool×Bool×Bool×Bool)×Int×Int)×Bool×Bool×Bool×Int×Bool×Bool×Bool:=(c.1,c.2.1,c.2.2.1,c.2.2.2.1,c.2.2.2.2.1,c.2.2.2.2.2.1,c.2.2.2.2.2.2.2.2.2.2)
theorem Zv1 (c:TC) (l:LINT):unl (Zg c l)=unl c:=by unfold Zg Zns;simp only[RT.val];cases !rOn c.1<;>rfl
theorem Zj7 (c:TC):Zj c 0=c:=rfl
variable {a b:TC}
theorem ZVf (h:unl a=unl b) (s:Int):unl (Zj a s)=unl (Zj b s):=by
 unfold Zj Zi6;simp only[RT.val];cases decide (s<1)||decide (s>5)
 ·simp only[unl,pinj] at h|-;obtain⟨h1,h2,h3,h4,h5,h6,h7⟩:=h;simp only[h1,h2,h3,h4,h5,h6,h7,and_self];simp only[Yb,unl,h1,h2,h3,h4,h5,h6,h7,and_self]
 ·exact h
theorem ZKZ (h1:a.1=b.1) (h2:a.2.1=b.2.1):ZC a=ZC b:=by unfold ZC Zno;simp only[RT.val,h1,h2]
theorem ZQo (c:TC) (s:Int):(Zj c s).1=c.1/\(Zj c s).2.1=c.2.1:=by unfold Zj Zi6;simp only[RT.val];cases decide (s<1)||decide (s>5)<;>exact⟨rfl,rfl⟩
theorem Zkc (h:unl a=unl b):a.1=b.1/\a.2.1=b.2.1:=by simp only[unl,pinj] at h;exact⟨h.1,h.2.1⟩
theorem ZTr (h1:a.1=b.1) (h2:a.2.1=b.2.1) (inj:Bool) (g:List Int) (i:InsT):Zga a inj g i=Zga b inj g i:=by unfold Zga Zcn Zbp opC ZbZ popX Z3 ZdM Zg4 Zfx pcOf spOf;simp only[h1,h2]
theorem Zmj (h:unl a=unl b) (s:Int) (g:List Int):Zh a s g=Zh b s g:=by
 obtain⟨h1,h2⟩:=Zkc h;have hp:ZeO a s g=ZeO b s g:=by
  unfold ZeO pcOf ZbZ spOf;simp only[h1,h2];cases Zd s
  ·cases g with
   |nil=>rfl
   |cons o g=>simp only[Yb,ZTr h1 h2]
  ·rfl
 unfold Zh;rw[hp]
theorem Zmk (c:TC) (s:Int):(Zh c s []).2=true:=by unfold Zh ZeO pick;cases Zd s<;>rfl
variable {p q:TC}
theorem Zpy (h:unl p=unl q) (e:EVTT) (he:e.2.2.2.2.1=q.2.2.2.2.2.2.2.1/\e.2.2.2.2.2.1=q.2.2.2.2.2.2.1/\e.2.2.2.2.2.2.1=q.2.2.2.2.2.2.2.2.2.1/\e.2.2.2.2.2.2.2.1=q.2.2.2.2.2.2.2.2.1):ZxK p e=q:=by obtain⟨e1,e2,e3,e4⟩:=he;simp only[unl,pinj] at h;obtain⟨h1,h2,h3,h4,h5,h6,h7⟩:=h;unfold ZxK;rw[e1,e2,e3,e4,h1,h2,h3,h4,h5,h6,h7]
theorem ZDd (c:TC) (s:Int):∀(r g:List Int) (b:Int),(cyX c s g r).length=r.length->(Zh c s (g++r)).2=true->cyX c s g (r++[b])=cyX c s g r++[Zfk c (Zh c s (g++r)).1 b]/\(cyX c s g (r++[b])).length=(r++[b]).length
 |[],g,b,_,h=>by rw[Yt] at h|-;simp only[List.nil_append,cyX,h,Ya,List.length_cons,List.length_nil,and_self]
 |x::r,g,b,hl,h=>by
  simp only[List.cons_append,cyX] at hl|-;cases hn:(Zh c s g).2
  ·rw[hn] at hl;simp at hl
  ·rw[hn] at hl;simp only[Ya,List.length_cons] at hl|-;have h':(Zh c s (g++[x]++r)).2=true:=by rw[Yn];exact h
   obtain⟨q1,q2⟩:=ZDd c s r (g++[x]) b (by omega) h';rw[q1] at q2|-;rw[Yn] at q2|-;exact⟨rfl,by simpa using q2⟩
structure Sem (s0:TC) (c:CORT) (ev:List EVTT) (cp:List TC) (it:List ITMT):Prop where
 hcp:cp=ZgF s0 ev
 un:unl c.1=unl (Zj (ZH s0 ev) c.2.1)
 nx:1<=c.2.2.2.2.1/\c.2.2.2.2.1<=9
 rest:c.2.1=0->c.1.2.2.2.2.1=true->(c.2.2.2.2.1=8\/c.2.2.2.2.1=9)/\c.2.2.1=[]
 nine:c.2.2.2.2.1=9->c.2.1=0/\c.1.2.2.2.2.1=true
 cy:(c.2.2.2.2.1<4\/6<c.2.2.2.2.1)->c.2.2.2.1=(Zh c.1 c.2.1 c.2.2.1).1/\(Zh c.1 c.2.1 c.2.2.1).2=true
 hit:cyI it=cyA s0 ev++cyX (Zj (ZH s0 ev) c.2.1) c.2.1 [] c.2.2.1
 ln:(cyX (Zj (ZH s0 ev) c.2.1) c.2.1 [] c.2.2.1).length=c.2.2.1.length
 pt:(c.2.2.2.2.1=2\/c.2.2.2.2.1=3\/c.2.2.2.2.1=7)->∃(l:List ITMT) (y:ITMT),it=l++[y]/\y.1=1/\y.2.2.2.1=(bif c.2.2.2.2.1==2 then 1 else 2)
 ps:4<=c.2.2.2.2.1->c.2.2.2.2.1<=6->∃(l:List ITMT) (y:ITMT),it=l++[y]/\y.1=1/\y.2.2.2.1=c.2.2.2.2.1-1/\y.2.1=c.2.2.2.1
theorem ZJJ (h:unl a=unl b):a.2.2.2.2.1=b.2.2.2.2.1:=by simp only[unl,pinj] at h;exact h.2.2.2.2.1
theorem ZpH (c:TC) (s:Int) (h:Bool):(idlX c s h=8\/idlX c s h=9\/idlX c s h=1)/\(idlX c s h=9->s=0/\c.2.2.2.2.1=true)/\(s=0->c.2.2.2.2.1=true->idlX c s h=8\/idlX c s h=9):=by
 unfold idlX;cases h
 ·cases hh:c.2.2.2.2.1&&s==0
  ·simp only[Yb];refine⟨.inr (.inr trivial),λe=>by omega,λe1 e2=> ?_⟩;rw[e1,e2] at hh;simp at hh
  ·simp only[Ya,Yb];simp at hh;exact⟨.inr (.inl trivial),λ_=>⟨hh.2,hh.1⟩,λ_ _=>.inr trivial⟩
 ·simp only[Ya];exact⟨.inl trivial,λe=>by omega,λ_ _=>.inl trivial⟩
variable {s0:TC} {c:CORT} {cp:List TC} {it:List ITMT}
theorem ZQ3 (h:Sem s0 c ev cp it) (e:EVTT) (h1:Z7 (ZH s0 ev) e=ZH s0 ev) (h2:ZR (ZH s0 ev) e=[]):
  Sem s0 c (ev++[e]) (cp++[ZlK s0 cp]) it:=by
 have hl:ZH s0 (ev++[e])=ZH s0 ev:=by rw[ZdE,h1]
 refine⟨by rw[h.hcp,Zek,ZkR,h1],by rw[hl];exact h.un,h.nx,h.rest,h.nine,h.cy,by rw[hl,Ziz,h2,Yt];exact h.hit,by rw[hl];exact h.ln,h.pt,h.ps⟩
theorem ZyU (s:Int):ZjQ (Zgh s)=true:=by
 unfold Zgh ZJp ZjQ;simp only[RT.val];cases Zd s
 ·cases s==5<;>rfl
 ·rfl
theorem ZKG (p:TC) (s:Int) (g:List Int) (h:Bool) (l:LINT) (hcp:cp=ZgF s0 ev) (un:unl p=unl (Zj (ZH s0 ev) s)) (hh:s=0->p.2.2.2.2.1=true->False)
  (hit:cyI it=cyA s0 ev++cyX (Zj (ZH s0 ev) s) s [] g) (ln:(cyX (Zj (ZH s0 ev) s) s [] g).length=g.length):
  Sem s0 (endX p s g h l) (bif (Zh p s g).2 then ev else ev++[Ze1 (Zgh s,s,g,ZdI,false,false,false,false,0,0) p l]) (bif (Zh p s g).2 then cp else cp++[finX p s g l]) it:=by
 unfold endX;dsimp only;cases hn:(Zh p s g).2
 ·simp only[Yb];generalize hq:finX p s g l=q;generalize ZbI q l=k;generalize he:Ze1 (Zgh s,s,g,ZdI,false,false,false,false,0,0) p l=e;have hpat:ZxK (Zj (ZH s0 ev) s) e=p:=Zpy un.symm e (by rw[<-he,Zbq];exact⟨rfl,rfl,rfl,rfl⟩);have ha:Z7 (ZH s0 ev) e=q:=by
   have e1:e.1=Zgh s:=by rw[<-he,Zbq]
   have e2:e.2.1=s:=by rw[<-he,Zbq]
   have e3:e.2.2.1=g:=by rw[<-he,Zbq]
   have e4:e.2.2.2.1=l:=by rw[<-he,Zbq]
   unfold Z7;rw[e1,ZyU,e2,hpat,e3,e4];exact hq
  have hc:ZR (ZH s0 ev) e=cyX (Zj (ZH s0 ev) s) s [] g:=by
   have e1:e.1=Zgh s:=by rw[<-he,Zbq]
   have e2:e.2.1=s:=by rw[<-he,Zbq]
   have e3:e.2.2.1=g:=by rw[<-he,Zbq]
   unfold ZR cycE;rw[e1,ZyU,e2,e3];rfl
  have hl:ZH s0 (ev++[e])=q:=by rw[ZdE,ha]
  obtain⟨i1,i2,i3⟩:=ZpH (Zj q k) k h;refine⟨by rw[hcp,Zek,ha],by rw[hl],?_,λa b=>⟨i3 a b,rfl⟩,i2,λ_=>⟨rfl,Zmk _ _⟩,?_,by rw[hl];rfl,λe=> ?_,λe1 e2=> ?_⟩
  ·show 1<=idlX (Zj q k) k h/\idlX (Zj q k) k h<=9;omega
  ·rw[hl,Ziz,hc,hit];show _=_++[];rw[Yt]
  ·exfalso;replace e:idlX (Zj q k) k h=2\/idlX (Zj q k) k h=3\/idlX (Zj q k) k h=7:=e;omega
  ·exfalso;replace e1:4<=idlX (Zj q k) k h:=e1;replace e2:idlX (Zj q k) k h<=6:=e2;omega
 ·simp only[Ya];obtain⟨i1,i2,i3⟩:=ZpH p s h;refine⟨hcp,un,?_,λa b=>(hh a b).elim,λe=>((hh (i2 e).1 (i2 e).2)).elim,λ_=>⟨rfl,hn⟩,hit,ln,λe=> ?_,λe1 e2=> ?_⟩
  ·show 1<=idlX p s h/\idlX p s h<=9;omega
  ·exfalso;replace e:idlX p s h=2\/idlX p s h=3\/idlX p s h=7:=e;omega
  ·exfalso;replace e1:4<=idlX p s h:=e1;replace e2:idlX p s h<=6:=e2;omega
theorem ZeE {l:List ITMT} {k:Int} {n:ITMT} (hk:k≠1) (hn:n.1=k):cyI (ZkT l k c n)=cyI l:=by
 have h1:∀y:ITMT,y.1=k->∀l,cyI (l++[y])=cyI l:=λy hy l=>by
  rw[ZbG];have:(y.1==1)=false:=by rw[hy];simpa using hk
  rw[this];simp
 unfold ZkT;cases hl:l.getLast? with
 |none=>exact h1 n hn l
 |some y=>
  simp only;obtain⟨l',rfl⟩:∃l',l=l'++[y]:=by
   rcases Y8 l with rfl|⟨l',z,rfl⟩
   ·simp at hl
   ·rw[Y4] at hl|-;simp at hl;subst hl;exact⟨l',rfl⟩
  cases hs:ZQ5 y k c
  ·exact h1 n hn _
  ·have hy:y.1=k:=by simp[ZQ5] at hs;exact hs.1
   simp only[Ya,Zac];rw[h1 (ZZd y) hy,h1 y hy]
theorem ZlB (c:CORT) (t d:Int) (h:(t==3)=false):Zv c t d=c.2.2.2.1:=by unfold Zv ZiF;simp only[RT.val,h,Yb]
theorem ZXV (c:CORT) (d:Int) (p:TC) (h:p.1=c.1.1):Zv c 3 d=ZaH p c.2.2.2.1 d:=by unfold Zv ZiF ZaH;rw[h];rfl
theorem ZwD (h:p.1=q.1) (x:TY) (d:Int):ZaH p x d=ZaH q x d:=by unfold ZaH;rw[h]
theorem Zri (p a:TC) (h:a.1=p.1) (x:TY) (d:Int):Zfk a x (ZaH p x d).2.2.1=ZaH p x d:=by unfold Zfk ZaH;rw[h];cases ZaS x.1<;>rfl
theorem ZGt (ev:List EVTT) (c:CORT) (l:LINT) (d:Int) (cell:Cell) (hr:l.2.2.1=false):evE ev c l d cell false=bif (finS c l d).2 then ev++[Ze1 (Zgh c.2.1,c.2.1,Zb7 c (Zp c) d,ZdI,false,false,false,false,0,0) (Zg c.1 l) l] else ev:=by unfold evE;rw[hr];rfl
theorem ZS3 (cp:List TC) (s0:TC) (c a:CORT) (l:LINT) (d:Int) (hr:l.2.2.1=false):evC cp s0 c a l d false=bif (finS c l d).2 then cp++[(finS c l d).1] else cp:=by unfold evC;rw[hr];rfl
theorem itN (y:ITMT) (n:Int) (h:y.2.2.2.1=n) (h1:0<=n) (h2:n<=100):IntKind.wrap .i64 (y.2.2.2.1+1)=n+1:=by rw[h,wrap_i64 _ (by omega) (by omega)]
theorem ZQ4 (h:Sem s0 c ev cp it) (l:LINT) (d:Int) (cell:Cell) (hr:l.2.2.1=false):
  Sem s0 (Zk c l d) (evE ev c l d cell false) (evC cp s0 c (Zk c l d) l d false) (ZcQ it c (Zv c (Zp c) d) (Zp c)):=by
 rw[ZGt _ _ _ _ _ hr,ZS3 _ _ _ _ _ _ hr];obtain⟨hcp,un,nx,rest,nine,cy,hit,ln,pt,ps⟩:=h;obtain⟨p0,s,g,x,n,hd⟩:=c;simp only at un nx rest nine cy hit ln pt ps;have hst:Zp (p0,s,g,x,n,hd)=n:=by
  have h1:(decide (n<1)||decide (n>9))=false:=by simp;omega
  simp only[Zp,ZsO,RT.val,h1,Yb]
 have hsx:ZM n=n:=by
  have h1:(decide (n<1)||decide (n>9))=false:=by simp;omega
  simp only[ZM,h1,Yb]
 have hup:=Zv1 p0 l;have hchip:(Zg p0 l).1=p0.1:=(Zkc hup).1;have hun:unl (Zg p0 l)=unl (Zj (ZH s0 ev) s):=hup.trans un;have hhl:(Zg p0 l).2.2.2.2.1=p0.2.2.2.2.1:=ZJJ hup;have hnxt:∀g,Zh (Zg p0 l) s g=Zh p0 s g:=λg=>Zmj hup s g
 rw[hst];have hcases:n=1\/n=2\/n=3\/n=4\/n=5\/n=6\/n=7\/n=8\/n=9:=by omega
 have hnf:∀k:Int,n=k->Zi5 k x=false->(k==3)=false->(finS (p0,s,g,x,n,hd) l d).2=false:=λk hk he h3=>by
  unfold finS rdS;have:(n !=3)=true:=by rw[hk];simpa [bne] using h3
  simp only[hr,this,hk▸he,Ya,Yb,Yl]
 have sem456:∀k:Int,(k=4\/k=5\/k=6)->n=k->Sem s0 (Zk (p0,s,g,x,n,hd) l d) (bif (finS (p0,s,g,x,n,hd) l d).2 then ev++[Ze1 (Zgh s,s,Zb7 (p0,s,g,x,n,hd) n d,ZdI,false,false,false,false,0,0) (Zg p0 l) l] else ev)
   (bif (finS (p0,s,g,x,n,hd) l d).2 then cp++[(finS (p0,s,g,x,n,hd) l d).1] else cp) (ZcQ it (p0,s,g,x,n,hd) (Zv (p0,s,g,x,n,hd) n d) n):=by
  intro k hk e;subst e;obtain⟨l',y,rfl,y1,yN,yc⟩:=ps (by rcases hk with rfl|rfl|rfl<;>decide) (by rcases hk with rfl|rfl|rfl<;>decide);clear pt ps;have b1:(n==1)=false:=by rcases hk with rfl|rfl|rfl<;>rfl
  have b2:(n==2)=false:=by rcases hk with rfl|rfl|rfl<;>rfl
  have b3:(n==3)=false:=by rcases hk with rfl|rfl|rfl<;>rfl
  have b7:(n==7)=false:=by rcases hk with rfl|rfl|rfl<;>rfl
  have b8:(n==8)=false:=by rcases hk with rfl|rfl|rfl<;>rfl
  have b9:(n==9)=false:=by rcases hk with rfl|rfl|rfl<;>rfl
  have b10:(n==10)=false:=by rcases hk with rfl|rfl|rfl<;>rfl
  have b3':(n !=3)=true:=by rcases hk with rfl|rfl|rfl<;>rfl
  have hi:ZcQ (l'++[y]) (p0,s,g,x,n,hd) (Zv (p0,s,g,x,n,hd) n d) n=l'++[(y.1,x,y.2.2.1,n,y.2.2.2.2)]:=by
   rw[ZlB _ _ _ b3];have hkn:Zvc n=1:=by unfold Zvc;simp only[b8,b9,b10,Yb]
   have hcn:cycN (p0,s,g,x,n,hd) n x=x:=by unfold cycN;simp only[b8,b9,b10,Yb]
   unfold ZcQ;simp only[hkn,hcn,b1,b7];show Zbt (l'++[y]) _=_;rw[Zac,itN y (n-1) yN (by omega) (by omega)];simp
  rw[hi];have hit':cyI (l'++[(y.1,x,y.2.2.1,n,y.2.2.2.2)])=cyA s0 ev++cyX (Zj (ZH s0 ev) s) s [] g:=by rw[<-hit,ZbG,ZbG];have q1:decide (n>=3)=true:=Yq (by omega);have q2:decide (y.2.2.2.1>=3)=true:=Yq (by omega);simp only[y1,q1,q2,yc]
  have hno:s=0->(Zg p0 l).2.2.2.2.1=true->False:=λa b=>by have:=rest a (by rw[<-hhl];exact b);omega
  have hby:Zb7 (p0,s,g,x,n,hd) n d=g:=by unfold Zb7;simp only[b3,Yb]
  have hrd:rdS (p0,s,g,x,n,hd) n d=(x,g):=by unfold rdS;simp only[b3',Ya]
  have hen:Zi5 n x= !(decide (n<x.2.2.2)&& !(n==6)):=by
   unfold Zi5 ZLy;rcases hk with rfl|rfl|rfl
   ·by_cases q:(4:Int)<x.2.2.2
    ·have q1:decide (x.2.2.2<=4)=false:=Yx (by omega);have q2:decide ((4:Int)<x.2.2.2)=true:=Yq q;simp only[RT.val,q2];exact q1
    ·have q1:decide (x.2.2.2<=4)=true:=Yq (by omega);have q2:decide ((4:Int)<x.2.2.2)=false:=Yx q;simp only[RT.val,q2];exact q1
   ·by_cases q:(5:Int)<x.2.2.2
    ·have q1:decide (x.2.2.2<=5)=false:=Yx (by omega);have q2:decide ((5:Int)<x.2.2.2)=true:=Yq q;simp only[RT.val,q2];exact q1
    ·have q1:decide (x.2.2.2<=5)=true:=Yq (by omega);have q2:decide ((5:Int)<x.2.2.2)=false:=Yx q;simp only[RT.val,q2];exact q1
   ·cases decide ((6:Int)<x.2.2.2)<;>rfl
  have hclk:Zk (p0,s,g,x,n,hd) l d=bif decide (n<x.2.2.2)&& !(n==6) then (Zg p0 l,s,g,x,n+1,hd) else endX (Zg p0 l) s g hd l:=by unfold Zk;simp only[hr,hsx,b1,b2,b3,b7,b8,b9,YaB,Yb]
  cases hle:decide (n<x.2.2.2)&& !(n==6)
  ·have hck:Zk (p0,s,g,x,n,hd) l d=endX (Zg p0 l) s g hd l:=by rw[hclk,hle];rfl
   have hf:finS (p0,s,g,x,n,hd) l d=bif (Zh (Zg p0 l) s g).2 then (Zj8,false) else (finX (Zg p0 l) s g l,true):=by unfold finS;simp only[hr,hrd,hen,hle,Ya,Yb,Yf,Yl]
   have:=ZKG (Zg p0 l) s g hd l hcp hun hno hit' ln;rw[hck,hf,hby];cases hn:(Zh (Zg p0 l) s g).2
   ·rw[hn] at this;exact this
   ·rw[hn] at this;exact this
  ·have hf:(finS (p0,s,g,x,n,hd) l d).2=false:=by unfold finS;simp only[hr,hrd,hen,hle,Ya,Yb,Yf,Yl]
   have hck:Zk (p0,s,g,x,n,hd) l d=(Zg p0 l,s,g,x,n+1,hd):=by rw[hclk,hle];rfl
   have h6:n≠6:=by simp at hle;exact hle.2
   rw[hck,hf];refine⟨hcp,hun,by show 1<=n+1/\n+1<=9;omega,λa b=>(hno a b).elim,λe=>by replace e:n+1=9:=e;omega,λe=>by replace e:n+1<4\/6<n+1:=e;omega,hit',ln,λe=>by replace e:n+1=2\/n+1=3\/n+1=7:=e;omega,λ_ _=>⟨l',_,rfl,y1,?_,rfl⟩⟩;show n=n+1-1;omega
 rcases hcases with e|e|e|e|e|e|e|e|e
 ·--T1
  subst e;rw[hnf 1 rfl rfl rfl];have hck:Zk (p0,s,g,x,1,hd) l d=(Zg p0 l,s,g,x,2,hd):=by unfold Zk;simp only[hr,hsx];rfl
  rw[hck,ZlB _ _ _ rfl];refine⟨hcp,hun,⟨(by decide:(1:Int)<=2),(by decide:(2:Int)<=9)⟩,λa b=> ?_,λe=>by simp at e,λ_=>by rw[hnxt];exact cy (by omega),?_,ln,λ_=>⟨it,_,rfl,rfl,rfl⟩,λe=>by simp at e⟩
  ·have:=rest a (by rw[<-hhl];exact b);omega
  ·show cyI (it++[_])=_;rw[ZbG];show cyI it++[]=_;rw[Yt];exact hit
 ·--T2
  subst e;rw[hnf 2 rfl rfl rfl];obtain⟨l',y,rfl,y1,yN⟩:=pt (.inl rfl);have hi:ZcQ (l'++[y]) (p0,s,g,x,2,hd) (Zv (p0,s,g,x,2,hd) 2 d) 2=l'++[(y.1,x,y.2.2.1,2,y.2.2.2.2)]:=by rw[ZlB _ _ _ rfl];show Zbt (l'++[y]) _=_;rw[Zac,itN y 1 yN (by decide) (by decide)];rfl
  have hcy:cyI (l'++[(y.1,x,y.2.2.1,2,y.2.2.2.2)])=cyI (l'++[y]):=by rw[ZbG,ZbG];have:y.2.2.2.1=1:=yN;rw[this,y1];rfl
  rw[hi];have hno:s=0->p0.2.2.2.2.1=true->False:=λa b=>by have:=rest a b;omega
  have hck:Zk (p0,s,g,x,2,hd) l d=(Zg p0 l,s,g,x,bif l.1|| !Zq x.1 then 3 else 7,bif l.1|| !Zq x.1 then l.2.1 else hd):=by unfold Zk;simp only[hr,hsx];show (bif l.1|| !Zq x.1 then _ else _)=_;cases l.1|| !Zq x.1<;>rfl
  rw[hck];have hk:(bif l.1|| !Zq x.1 then (3:Int) else 7)=3\/(bif l.1|| !Zq x.1 then (3:Int) else 7)=7:=by cases l.1|| !Zq x.1<;>simp
  generalize (bif l.1|| !Zq x.1 then (3:Int) else 7)=k at hk;refine⟨hcp,hun,by show 1<=k/\k<=9;omega,λa b=>(hno a (by rw[<-hhl];exact b)).elim,λe=>by replace e:k=9:=e;omega,λ_=>by rw[hnxt];exact cy (by omega),by rw[hcy];exact hit,ln,λ_=>⟨l',_,rfl,y1,?_⟩,λe1 e2=>by replace e1:4<=k:=e1;replace e2:k<=6:=e2;omega⟩;show (2:Int)=bif k==2 then 1 else 2
  rcases hk with rfl|rfl<;>rfl
 ·--T3
  subst e;obtain⟨l',y,rfl,y1,yN⟩:=pt (.inr (.inl rfl));obtain⟨cy1,cy2⟩:=cy (by omega);generalize hx3:ZaH (Zg p0 l) x d=x3;have hx3':ZaH p0 x d=x3:=by rw[<-ZwD hchip];exact hx3
  have hcur:Zv (p0,s,g,x,3,hd) 3 d=x3:=by rw[ZXV _ _ (Zg p0 l) hchip];exact hx3
  have hi:ZcQ (l'++[y]) (p0,s,g,x,3,hd) (Zv (p0,s,g,x,3,hd) 3 d) 3=l'++[(y.1,x3,y.2.2.1,3,y.2.2.2.2)]:=by rw[hcur];show Zbt (l'++[y]) _=_;rw[Zac,itN y 2 yN (by decide) (by decide)];rfl
  rw[hi];have hac:=ZQo (ZH s0 ev) s;have hna:∀g,Zh (Zj (ZH s0 ev) s) s g=Zh p0 s g:=λg=>(Zmj un s g).symm
  obtain⟨k1,k2⟩:=ZDd (Zj (ZH s0 ev) s) s g [] x3.2.2.1 ln (by rw[List.nil_append,hna];exact cy2);rw[List.nil_append,hna,<-cy1,<-hx3',Zri p0 (Zj (ZH s0 ev) s) (Zkc un).1.symm,hx3'] at k1;have hit':cyI (l'++[(y.1,x3,y.2.2.1,3,y.2.2.2.2)])=cyA s0 ev++cyX (Zj (ZH s0 ev) s) s [] (g++[x3.2.2.1]):=by rw[k1,<-List.append_assoc,<-hit,ZbG,ZbG];have:y.2.2.2.1=2:=yN;rw[this,y1];show cyI l'++[x3]=cyI l'++[]++[x3];rw[Yt]
  have hno:s=0->(Zg p0 l).2.2.2.2.1=true->False:=λa b=>by have:=rest a (by rw[<-hhl];exact b);omega
  have hby:Zb7 (p0,s,g,x,3,hd) 3 d=g++[x3.2.2.1]:=by unfold Zb7;rw[hcur];rfl
  have hrd:rdS (p0,s,g,x,3,hd) 3 d=(x3,g++[x3.2.2.1]):=by show (ZaH p0 x d,g++[(ZaH p0 x d).2.2.1])=_;rw[hx3']
  have hen:Zi5 3 x3=le3 x3.2.2.2:=rfl;cases hle:le3 x3.2.2.2
  ·have hf:(finS (p0,s,g,x,3,hd) l d).2=false:=by unfold finS;simp only[hr,hrd,hen,hle,Ya,Yb,Yl]
   have hck:Zk (p0,s,g,x,3,hd) l d=(Zg p0 l,s,g++[x3.2.2.1],x3,4,hd):=by unfold Zk;simp only[hr,hsx,hx3,hle];rfl
   rw[hck,hf];exact⟨hcp,hun,⟨(by decide:(1:Int)<=4),(by decide:(4:Int)<=9)⟩,λa b=>(hno a b).elim,λe=>by simp at e,λe=>by simp at e,hit',k2,λe=>by simp at e,λ_ _=>⟨l',_,rfl,y1,rfl,rfl⟩⟩
  ·have hck:Zk (p0,s,g,x,3,hd) l d=endX (Zg p0 l) s (g++[x3.2.2.1]) hd l:=by unfold Zk;simp only[hr,hsx,hx3,hle];rfl
   have hf:finS (p0,s,g,x,3,hd) l d=bif (Zh (Zg p0 l) s (g++[x3.2.2.1])).2 then (Zj8,false) else (finX (Zg p0 l) s (g++[x3.2.2.1]) l,true):=by unfold finS;simp only[hr,hrd,hen,hle,Ya,Yb,Yf]
   have:=ZKG (Zg p0 l) s (g++[x3.2.2.1]) hd l hcp hun hno hit' k2;rw[hck,hf,hby];cases hn:(Zh (Zg p0 l) s (g++[x3.2.2.1])).2
   ·rw[hn] at this;exact this
   ·rw[hn] at this;exact this
 ·exact sem456 4 (.inl rfl) e
 ·exact sem456 5 (.inr (.inl rfl)) e
 ·exact sem456 6 (.inr (.inr rfl)) e
 ·--TWait
  subst e;rw[hnf 7 rfl rfl rfl];obtain⟨l',y,rfl,y1,yN⟩:=pt (.inr (.inr rfl));have hi:ZcQ (l'++[y]) (p0,s,g,x,7,hd) (Zv (p0,s,g,x,7,hd) 7 d) 7=l'++[(y.1,x,IntKind.wrap .i64 (y.2.2.1+1),y.2.2.2)]:=by rw[ZlB _ _ _ rfl];show Zbt (l'++[y]) _=_;rw[Zac];rfl
  have hcy:cyI (l'++[(y.1,x,IntKind.wrap .i64 (y.2.2.1+1),y.2.2.2)])=cyI (l'++[y]):=by rw[ZbG,ZbG];have:y.2.2.2.1=2:=yN;rw[this,y1];rfl
  rw[hi];have hno:s=0->p0.2.2.2.2.1=true->False:=λa b=>by have:=rest a b;omega
  have hck:Zk (p0,s,g,x,7,hd) l d=(Zg p0 l,s,g,x,bif l.1|| !Zq x.1 then 3 else 7,bif l.1|| !Zq x.1 then l.2.1 else hd):=by unfold Zk;simp only[hr,hsx];show (bif l.1|| !Zq x.1 then _ else _)=_;cases l.1|| !Zq x.1<;>rfl
  rw[hck];have hk:(bif l.1|| !Zq x.1 then (3:Int) else 7)=3\/(bif l.1|| !Zq x.1 then (3:Int) else 7)=7:=by cases l.1|| !Zq x.1<;>simp
  generalize (bif l.1|| !Zq x.1 then (3:Int) else 7)=k at hk;refine⟨hcp,hun,by show 1<=k/\k<=9;omega,λa b=>(hno a (by rw[<-hhl];exact b)).elim,λe=>by replace e:k=9:=e;omega,λ_=>by rw[hnxt];exact cy (by omega),by rw[hcy];exact hit,ln,λ_=>⟨l',_,rfl,y1,?_⟩,λe1 e2=>by replace e1:4<=k:=e1;replace e2:k<=6:=e2;omega⟩;show y.2.2.2.1=bif k==2 then 1 else 2
  rw[show y.2.2.2.1=2 from yN];rcases hk with rfl|rfl<;>rfl
 ·--THold
  subst e;rw[hnf 8 rfl rfl rfl];have hck:Zk (p0,s,g,x,8,hd) l d=(Zg p0 l,s,g,x,idlX (Zg p0 l) s l.2.1,hd):=by unfold Zk;simp only[hr,hsx];rfl
  have hcy:cyI (ZcQ it (p0,s,g,x,8,hd) (Zv (p0,s,g,x,8,hd) 8 d) 8)=cyI it:=ZeE (by decide) rfl;rw[hck];obtain⟨i1,i2,i3⟩:=ZpH (Zg p0 l) s l.2.1;generalize idlX (Zg p0 l) s l.2.1=k at i1 i2 i3;refine⟨hcp,hun,by show 1<=k/\k<=9;omega,λa b=>⟨i3 a b,(rest a (by rw[<-hhl];exact b)).2⟩,i2,λ_=>by rw[hnxt];exact cy (by omega),by rw[hcy];exact hit,ln,λe=>by replace e:k=2\/k=3\/k=7:=e;omega,λe1 e2=>by replace e1:4<=k:=e1;replace e2:k<=6:=e2;omega⟩
 ·--THalt
  subst e;rw[hnf 9 rfl rfl rfl];obtain⟨z1,z2⟩:=nine rfl;obtain⟨_,z3⟩:=rest z1 z2;subst z1;subst z3;have hcy:cyI (ZcQ it (p0,0,[],x,9,hd) (Zv (p0,0,[],x,9,hd) 9 d) 9)=cyI it:=ZeE (by decide) rfl;have hck:Zk (p0,0,[],x,9,hd) l d=bif ZbI (Zg p0 l) l==0 then (Zg p0 l,0,[],x,bif l.2.1 then 8 else 9,hd) else (Zj (Zg p0 l) (ZbI (Zg p0 l) l),ZbI (Zg p0 l) l,[],(Zh (Zj (Zg p0 l) (ZbI (Zg p0 l) l)) (ZbI (Zg p0 l) l) []).1,bif l.2.1 then 8 else 1,hd):=by unfold Zk;simp only[hr,hsx];rfl
  rw[hck];generalize ZbI (Zg p0 l) l=k;cases hk:k==0
  ·simp only[Yb];have hk0:k≠0:=by simpa using hk
   have hn:(bif l.2.1 then (8:Int) else 1)=8\/(bif l.2.1 then (8:Int) else 1)=1:=by cases l.2.1<;>simp
   generalize (bif l.2.1 then (8:Int) else 1)=n at hn;refine⟨hcp,ZVf (hun.trans (by rw[Zj7])) k,by show 1<=n/\n<=9;omega,λa _=>(hk0 a).elim,λe=>by replace e:n=9:=e;omega,λ_=>⟨rfl,Zmk _ _⟩,by rw[hcy];exact hit,rfl,λe=>by replace e:n=2\/n=3\/n=7:=e;omega,λe1 e2=>by replace e1:4<=n:=e1;replace e2:n<=6:=e2;omega⟩
  ·simp only[Ya];have hn:(bif l.2.1 then (8:Int) else 9)=8\/(bif l.2.1 then (8:Int) else 9)=9:=by cases l.2.1<;>simp
   generalize (bif l.2.1 then (8:Int) else 9)=n at hn;refine⟨hcp,hun,by show 1<=n/\n<=9;omega,λa _=>⟨hn,rfl⟩,λ_=>⟨rfl,by rw[<-hhl] at z2;exact z2⟩,λ_=>by rw[hnxt];exact cy (by omega),by rw[hcy];exact hit,rfl,λe=>by replace e:n=2\/n=3\/n=7:=e;omega,λe1 e2=>by replace e1:4<=n:=e1;replace e2:n<=6:=e2;omega⟩
theorem ZZw (k t:Int) (x:TY) (d:Int) (i o:Bool):ZhQ (Znp k t x d i o)=(t==8):=by
 unfold Znp ZwI ZhQ;simp only[RT.val];cases h8:t==8
 ·cases t==9
  ·cases t==10
   ·cases rOn k<;>rfl
   ·rfl
  ·rfl
 ·rfl
theorem ZgQ {l:LINT} {d:Int} (h:ZhQ (ZcT c l d)=true):l.2.2.1=false/\ZM c.2.2.2.2.1=8:=by
 unfold ZcT at h;rw[ZZw] at h;cases hl:l.2.2.1
 ·rw[hl] at h;simp at h;exact⟨rfl,h⟩
 ·rw[hl] at h;simp at h
theorem ZKF (h:Sem s0 c ev cp it) (l:LINT) (d:Int) (cell:Cell) (moved:Bool) (hr:l.2.2.1=true) (x:TY):
  Sem s0 (Zk c l d) (evE ev c l d cell moved) (evC cp s0 c (Zk c l d) l d moved) (ZcQ it c x 10):=by
 have hck:Zk c l d=Zp6 (ZC c.1) 0:=by unfold Zk;rw[hr];rfl
 have he:evE ev c l d cell moved=(bif Zdx c then ev++[Ze1 (6,c.2.1,c.2.2.1,ZdI,false,false,false,false,0,0) c.1 l] else ev)++[Ze1 (4,0,[],ZdI,false,false,false,false,0,0) c.1 l]:=by unfold evE;rw[hr];rfl
 have hc:evC cp s0 c (Zk c l d) l d moved=(bif Zdx c then cp++[ZlK s0 cp] else cp)++[ZC c.1]:=by unfold evC;rw[hr,hck];rfl
 rw[he,hc,hck];have hcyi:cyI (ZcQ it c x 10)=cyI it:=ZeE (by decide) rfl;obtain⟨ev',cp',hev,hcp',hl',hcy⟩:∃ev' cp',(bif Zdx c then ev++[Ze1 (6,c.2.1,c.2.2.1,ZdI,false,false,false,false,0,0) c.1 l] else ev)=ev'/\(bif Zdx c then cp++[ZlK s0 cp] else cp)=cp'/\(cp'=ZgF s0 ev'/\ZH s0 ev'=ZH s0 ev)/\cyA s0 ev'=cyI it:=by
  cases hb:Zdx c
  ·refine⟨ev,cp,rfl,rfl,⟨h.hcp,rfl⟩,?_⟩;have hg:c.2.2.1=[]:=by
    unfold Zdx ZLC at hb;simp only[RT.val] at hb;have hx:(decide (iN (List.length c.2.2.1)>0)||c.2.1 !=0)=false:=by
     cases hq:(decide (iN (List.length c.2.2.1)>0)||c.2.1 !=0)
     ·rfl
     ·rw[hq] at hb;cases h2:decide (c.2.2.2.2.1>=2)<;>rw[h2] at hb<;>simp at hb
    rw[Yo] at hx;have:=hx.1;simp only[iN,Le,Y9] at this;exact YX.1 (by omega)
   have:=h.hit;rw[hg] at this;rw[this];show _=_++[];rw[Yt]
  ·generalize hcut:Ze1 (6,c.2.1,c.2.2.1,ZdI,false,false,false,false,0,0) c.1 l=e;have e1:e.1=6:=by rw[<-hcut,Zbq]
   have e2:e.2.1=c.2.1:=by rw[<-hcut,Zbq]
   have e3:e.2.2.1=c.2.2.1:=by rw[<-hcut,Zbq]
   have ha:Z7 (ZH s0 ev) e=ZH s0 ev:=by unfold Z7 ZjQ;rw[e1];rfl
   refine⟨_,_,rfl,rfl,⟨?_,by simp only[Ya];rw[ZdE,ha]⟩,?_⟩
   ·simp only[Ya];rw[h.hcp,Zek,ZkR,ha]
   ·simp only[Ya];rw[Ziz,h.hit];unfold ZR cycE ZjQ;rw[e1,e2,e3];rfl
 rw[hev,hcp'];generalize hrs:Ze1 (4,0,[],ZdI,false,false,false,false,0,0) c.1 l=e;have e1:e.1=4:=by rw[<-hrs,Zbq]
 have hreg:=Zkc h.un;have hac:=ZQo (ZH s0 ev) c.2.1;have ha:Z7 (ZH s0 ev') e=ZC c.1:=by
  have:Z7 (ZH s0 ev') e=ZC (ZH s0 ev'):=by unfold Z7 ZjQ;rw[e1];rfl
  rw[this,hl'.2];exact ZKZ (by rw[hreg.1,hac.1]) (by rw[hreg.2,hac.2])
 have hc0:ZR (ZH s0 ev') e=[]:=by unfold ZR cycE ZjQ;rw[e1];rfl
 have hl:ZH s0 (ev'++[e])=ZC c.1:=by rw[ZdE,ha]
 refine⟨by rw[hl'.1,Zek,ha],by rw[hl];rfl,⟨(by decide:(1:Int)<=1),(by decide:(1:Int)<=9)⟩,λ_ b=> ?_,λe=> ?_,λ_=>⟨rfl,Zmk _ _⟩,?_,rfl,λe=> ?_,λe _=> ?_⟩
 ·have:(ZC c.1).2.2.2.2.1=false:=rfl;replace b:(ZC c.1).2.2.2.2.1=true:=b;rw[this] at b;simp at b
 ·replace e:(1:Int)=9:=e;omega
 ·rw[hcyi,Ziz,hc0,hcy,hl];show _=_++[]++[];rw[Yt,Yt]
 ·replace e:(1:Int)=2\/(1:Int)=3\/(1:Int)=7:=e;omega
 ·replace e:(4:Int)<=1:=e;omega
theorem Znc (b:BRDT) (s0:TC) (st:STT) (i:INPT) (h:Sem s0 st.1.1 st.2.2.2.1 st.2.2.2.2 st.2.2.1):Sem s0 (Zas b s0 st i).1.1 (Zas b s0 st i).2.2.2.1 (Zas b s0 st i).2.2.2.2 (Zas b s0 st i).2.2.1:=by
 have hcore:(ZW b st.1 i).1.1=Zk st.1.1 (ZaK b (Zn b st.1 i) i) (busS b (Zn b st.1 i) i).2:=Zfy b st.1 i;show Sem s0 (ZW b st.1 i).1.1 (evE st.2.2.2.1 st.1.1 (ZaK b (Zn b st.1 i) i) (busS b (Zn b st.1 i) i).2 (ZW b st.1 i).2.2.2.2.1 (Zbf b st.1 i)) (evC st.2.2.2.2 s0 st.1.1 (ZW b st.1 i).1.1 (ZaK b (Zn b st.1 i) i) (busS b (Zn b st.1 i) i).2 (Zbf b st.1 i))
  (ZcQ st.2.2.1 st.1.1 (Zv st.1.1 (nowS st.1 i) (busS b (Zn b st.1 i) i).2) (nowS st.1 i))
 rw[hcore];have hl2:(ZaK b (Zn b st.1 i) i).2.2.1=i.2.2.1:=rfl;generalize hL:ZaK b (Zn b st.1 i) i=l at hl2|-;generalize hD:(busS b (Zn b st.1 i) i).2=d;cases hr:i.2.2.1
 ·have hnow:nowS st.1 i=Zp st.1.1:=by unfold nowS;rw[hr];rfl
  rw[hnow];rw[hr] at hl2;have hcalm:=ZQ4 h l d (ZW b st.1 i).2.2.2.2.1 hl2;cases hm:Zbf b st.1 i
  ·exact hcalm
  ·--a byte is moved:in a hold state
   have h8:ZM st.1.1.2.2.2.2.1=8:=by unfold Zbf at hm;rw[Yc] at hm;have hp:=hm.1;unfold pinS at hp;rw[hL,hD,(ZhM b (Zn b st.1 i) i).1] at hp;exact (ZgQ hp).2
   have hf:(finS st.1.1 l d).2=false:=by
    have h8':st.1.1.2.2.2.2.1=8:=by
     have:=h.nx;have h1:(decide (st.1.1.2.2.2.2.1<1)||decide (st.1.1.2.2.2.2.1>9))=false:=by simp;omega
     simp only[ZM,h1,Yb] at h8;exact h8
    unfold finS rdS;rw[hl2,h8'];rfl
   have e1:evE st.2.2.2.1 st.1.1 l d (ZW b st.1 i).2.2.2.2.1 true=st.2.2.2.1++[(5,0,[],ZdI,false,false,false,false,(ZW b st.1 i).2.2.2.2.1)]:=by unfold evE;rw[hl2,hf];rfl
   have e2:evE st.2.2.2.1 st.1.1 l d (ZW b st.1 i).2.2.2.2.1 false=st.2.2.2.1:=by unfold evE;rw[hl2,hf];rfl
   have e3:evC st.2.2.2.2 s0 st.1.1 (Zk st.1.1 l d) l d true=st.2.2.2.2++[ZlK s0 st.2.2.2.2]:=by unfold evC;rw[hl2,hf];rfl
   have e4:evC st.2.2.2.2 s0 st.1.1 (Zk st.1.1 l d) l d false=st.2.2.2.2:=by unfold evC;rw[hl2,hf];rfl
   rw[e1,e3];rw[e2,e4] at hcalm;exact ZQ3 hcalm _ rfl rfl
 ·have hnow:nowS st.1 i=10:=by unfold nowS;rw[hr];rfl
  rw[hnow];exact ZKF h l d _ _ (by rw[hl2,hr]) _
theorem Zsy (b:BRDT) (s0:TC):∀(l:List INPT) (st:STT),Sem s0 st.1.1 st.2.2.2.1 st.2.2.2.2 st.2.2.1->Sem s0 (ZbU b s0 st l).1.1 (ZbU b s0 st l).2.2.2.1 (ZbU b s0 st l).2.2.2.2 (ZbU b s0 st l).2.2.1
 |[],st,h=>h
 |i::l,st,h=>Zsy b s0 l (Zas b s0 st i) (Znc b s0 st i h)
theorem Zyl (b:BRDT) (hg:smG b.2.1=true) (hm:b.2.2.2.2.2.2.length<=100000) (hx:((wNew b).2 !=0)=false):wNew b=(newS b,0):=by
 have hv:(ZGN b).val=some (bif ZbR b !=0 then (ZzA,ZbR b) else ((newS b),0)):=by unfold ZGN;have hc:=smCb (l:=b.2.2.2.2.2.2) (by omega);simp only[RT.val,ZmC b hg hc,hc,Ya];cases ZbR b !=0<;>rfl
 have hx':(ZbR b !=0)=false:=by
  cases hq:ZbR b !=0
  ·rfl
  ·exfalso;simp only[wNew,hv,getO,hq,Ya] at hx;simp at hx
 simp only[wNew,hv,getO,hx',Yb]
theorem Zvf (b:BRDT) (hw:wNew b=(newS b,0)):ZN b=Zbg b/\Sem (ZN b) (ZaN b).1.1 (ZaN b).2.2.2.1 (ZaN b).2.2.2.2 (ZaN b).2.2.1:=by
 have hs:ZN b=Zbg b:=by unfold ZN;rw[hw];rfl
 refine⟨hs,?_⟩;have e:(ZaN b).1.1=(ZN b,0,[],(1,0,0,4),1,false):=by unfold ZaN ZN;rw[hw];rfl
 rw[e];refine⟨rfl,rfl,⟨(by decide:(1:Int)<=1),(by decide:(1:Int)<=9)⟩,λ_ q=> ?_,λe=> ?_,λ_=>⟨?_,Zmk _ _⟩,rfl,rfl,λe=> ?_,λe _=> ?_⟩
 ·have:(ZN b).2.2.2.2.1=false:=by rw[hs];rfl
  replace q:(ZN b).2.2.2.2.1=true:=q;rw[this] at q;simp at q
 ·replace e:(1:Int)=9:=e;omega
 ·have:ZN b=Zbg b:=hs;show ((1,0,0,4):TY)=(Zh (ZN b) 0 []).1;rw[this];rfl
 ·replace e:(1:Int)=2\/(1:Int)=3\/(1:Int)=7:=e;omega
 ·replace e:(4:Int)<=1:=e;omega
theorem ZKN (b:BRDT) (l:List INPT) (hg:smG b.2.1=true) (hm:b.2.2.2.2.2.2.length<=100000):
  (Zco b l).1.2.2.2.1=ZgF (Zbg b) (Zco b l).1.2.2.1/\cyI (Zco b l).1.2.1=cyA (Zbg b) (Zco b l).1.2.2.1:=by
 unfold Zco;cases hx:(wNew b).2 !=0
 ·obtain⟨hs,hi⟩:=Zvf b (Zyl b hg hm hx);have hf:=Zsy b (ZN b) l (ZaN b) hi;rw[<-hs];show (endS (ZN b) (ZbU b (ZN b) (ZaN b) l)).2.2.2.1=ZgF (ZN b) (endS (ZN b) (ZbU b (ZN b) (ZaN b) l)).2.2.1/\cyI (endS (ZN b) (ZbU b (ZN b) (ZaN b) l)).2.1=cyA (ZN b) (endS (ZN b) (ZbU b (ZN b) (ZaN b) l)).2.2.1;generalize ZbU b (ZN b) (ZaN b) l=st at hf;unfold endS;cases hb:Zdx st.1.1
  ·refine⟨hf.hcp,?_⟩;have hg:st.1.1.2.2.1=[]:=by
    unfold Zdx ZLC at hb;simp only[RT.val] at hb;have hx:(decide (iN (List.length st.1.1.2.2.1)>0)||st.1.1.2.1 !=0)=false:=by
     cases hq:(decide (iN (List.length st.1.1.2.2.1)>0)||st.1.1.2.1 !=0)
     ·rfl
     ·rw[hq] at hb;cases h2:decide (st.1.1.2.2.2.2.1>=2)<;>rw[h2] at hb<;>simp at hb
    rw[Yo] at hx;have:=hx.1;simp only[iN,Le,Y9] at this;exact YX.1 (by omega)
   have:=hf.hit;rw[hg] at this;show cyI st.2.2.1=_;rw[this];show _++[]=_;rw[Yt];rfl
  ·simp only[Ya];have ha:Z7 (ZH (ZN b) st.2.2.2.1) (7,st.1.1.2.1,st.1.1.2.2.1,ZdI,false,false,false,false,0,0)=ZH (ZN b) st.2.2.2.1:=rfl;refine⟨by rw[hf.hcp,Zek,ZkR,ha],?_⟩;rw[Ziz];exact hf.hit
 ·exact⟨rfl,rfl⟩
theorem ZMl (c:TC) (l:LINT):0<=ZbI c l/\ZbI c l<=5:=by
 have hv:∃k,(ZwJ c l).val=k/\(0:Int)<=k/\k<=5:=by
  simp only[ZwJ,RT.val,Bool.cond_eq_ite];repeat' split
  all_goals exact⟨_,rfl,by omega,by omega⟩
 obtain⟨k,hk,h0,h1⟩:=hv;simp only[ZbI,hk];exact⟨h0,h1⟩
def ZJg (c:CORT):Prop:=0<=c.2.1/\c.2.1<=5
theorem ZKv (p:TC) (s:Int) (g:List Int) (h:Bool) (l:LINT) (hs:0<=s/\s<=5):ZJg (endX p s g h l):=by
 unfold endX;cases (Zh p s g).2
 ·exact ZMl _ _
 ·exact hs
theorem ZKw (c:CORT) (l:LINT) (d:Int) (hs:ZJg c):ZJg (Zk c l d):=by
 unfold Zk;dsimp only;cases l.2.2.1
 ·cases ZM c.2.2.2.2.1==1
  ·cases ZM c.2.2.2.2.1==2||ZM c.2.2.2.2.1==7
   ·cases ZM c.2.2.2.2.1==8
    ·cases ZM c.2.2.2.2.1==9
     ·cases ZM c.2.2.2.2.1==3
      ·cases decide (ZM c.2.2.2.2.1<c.2.2.2.1.2.2.2)&& !(ZM c.2.2.2.2.1==6)
       ·exact ZKv _ _ _ _ _ hs
       ·exact hs
      ·cases le3 (ZaH (Zg c.1 l) c.2.2.2.1 d).2.2.2
       ·exact hs
       ·exact ZKv _ _ _ _ _ hs
     ·cases ZbI (Zg c.1 l) l==0
      ·exact ZMl _ _
      ·exact hs
    ·exact hs
   ·cases l.1|| !Zq c.2.2.2.1.1<;>exact hs
  ·exact hs
 ·exact⟨Int.le_refl 0,(by decide:(0:Int)<=5)⟩
def kindP (s:Int):Int:=bif s==0 then 1 else bif s==5 then 2 else 3
theorem ZSK (h:ZJg c):kindP c.2.1=Zgh c.2.1:=by
 have h:=h;unfold ZJg at h;generalize c.2.1=s at h;have e:s=0\/s=1\/s=2\/s=3\/s=4\/s=5:=by omega
 rcases e with rfl|rfl|rfl|rfl|rfl|rfl<;>rfl
theorem ZKR (hn:1<=c.2.2.2.2.1/\c.2.2.2.2.1<=9):ZM c.2.2.2.2.1=c.2.2.2.2.1:=by
 have h1:(decide (c.2.2.2.2.1<1)||decide (c.2.2.2.2.1>9))=false:=by simp;omega
 simp only[ZM,h1,Yb]
theorem ZrD (p:TC) (l:LINT):(Zg p l).1=p.1:=by simp only[Zg,Zns,RT.val];cases rOn p.1<;>rfl
theorem ZZH (c:CORT) (l:LINT) (d:Int) (hn:1<=c.2.2.2.2.1/\c.2.2.2.2.1<=9) (hr:l.2.2.1=false):
  (ZaJ c l d).1=(finS c l d).2/\((finS c l d).2=true->(ZaJ c l d).2.1=(finS c l d).1/\(ZaJ c l d).2.2.1=Zb7 c (Zp c) d)/\(ZaJ c l d).2.2.2.1=Zv c (Zp c) d/\(ZaJ c l d).2.2.2.2=Zg c.1 l:=by
 have hsx:=ZKR hn;have hst:Zp c=c.2.2.2.2.1:=hsx;rw[hst];obtain⟨p0,s,g,x,n,hd⟩:=c;simp only at hn hsx;have hchip:=ZrD p0 l;have hne:∀k:Int,n=k->(k==3)=false->Zv (p0,s,g,x,n,hd) n d=x:=λk hk h3=>by simp only[Zv,ZiF,RT.val,hk,h3,Yb]
 have other:∀k:Int,n=k->(k==3)=false->(k==4||(k==5||k==6))=false->(∀y,Zi5 k y=false)->
   (ZaJ (p0,s,g,x,n,hd) l d).1=(finS (p0,s,g,x,n,hd) l d).2/\((finS (p0,s,g,x,n,hd) l d).2=true->(ZaJ (p0,s,g,x,n,hd) l d).2.1=(finS (p0,s,g,x,n,hd) l d).1/\(ZaJ (p0,s,g,x,n,hd) l d).2.2.1=Zb7 (p0,s,g,x,n,hd) n d)/\(ZaJ (p0,s,g,x,n,hd) l d).2.2.2.1=Zv (p0,s,g,x,n,hd) n d/\(ZaJ (p0,s,g,x,n,hd) l d).2.2.2.2=Zg p0 l:=by
  intro k hk h3 h4 he;subst hk;have hch:ZaJ (p0,s,g,x,n,hd) l d=(false,cpu0,[],x,Zg p0 l):=by unfold ZaJ;simp only[hsx,h3,h4,YW,Yb]
  have hf:(finS (p0,s,g,x,n,hd) l d).2=false:=by unfold finS;simp only[hr,he,Yl,Ya,Yb]
  rw[hch,hf,hne n rfl h3];exact⟨rfl,λe=>by simp at e,rfl,rfl⟩
 have last:∀k:Int,n=k->(k==3)=false->(k==4||(k==5||k==6))=true->(∀y:TY,Zi5 k y= !(decide (k<y.2.2.2)&& !(k==6)))->
   (ZaJ (p0,s,g,x,n,hd) l d).1=(finS (p0,s,g,x,n,hd) l d).2/\((finS (p0,s,g,x,n,hd) l d).2=true->(ZaJ (p0,s,g,x,n,hd) l d).2.1=(finS (p0,s,g,x,n,hd) l d).1/\(ZaJ (p0,s,g,x,n,hd) l d).2.2.1=Zb7 (p0,s,g,x,n,hd) n d)/\(ZaJ (p0,s,g,x,n,hd) l d).2.2.2.1=Zv (p0,s,g,x,n,hd) n d/\(ZaJ (p0,s,g,x,n,hd) l d).2.2.2.2=Zg p0 l:=by
  intro k hk h3 h4 he;subst hk;have hb3:(n !=3)=true:=by rw[bne,h3];rfl
  have hch:ZaJ (p0,s,g,x,n,hd) l d=bif !(decide (n<x.2.2.2)&& !(n==6))&& !(Zh (Zg p0 l) s g).2 then (true,finX (Zg p0 l) s g l,g,x,Zg p0 l) else (false,cpu0,[],x,Zg p0 l):=by unfold ZaJ;simp only[hsx,h3,h4,YT,Yb]
  have hf:finS (p0,s,g,x,n,hd) l d=bif decide (n<x.2.2.2)&& !(n==6) then (Zj8,false) else bif (Zh (Zg p0 l) s g).2 then (Zj8,false) else (finX (Zg p0 l) s g l,true):=by unfold finS rdS;simp only[hr,hb3,he,Bool.not_not,Ya,Yb]
  have hby:Zb7 (p0,s,g,x,n,hd) n d=g:=by unfold Zb7;simp only[h3,Yb]
  rw[hch,hf,hne n rfl h3,hby];cases decide (n<x.2.2.2)&& !(n==6)
  ·cases (Zh (Zg p0 l) s g).2
   ·exact⟨rfl,λ_=>⟨rfl,rfl⟩,rfl,rfl⟩
   ·exact⟨rfl,λe=>by simp at e,rfl,rfl⟩
  ·exact⟨rfl,λe=>by simp at e,rfl,rfl⟩
 have hcases:n=1\/n=2\/n=3\/n=4\/n=5\/n=6\/n=7\/n=8\/n=9:=by omega
 have ends45:∀k:Int,k=4\/k=5->∀y:TY,Zi5 k y= !(decide (k<y.2.2.2)&& !(k==6)):=λk hk y=>by
  have h6:(!(k==6))=true:=by rcases hk with rfl|rfl<;>rfl
  rw[h6,YY];have e:Zi5 k y=decide (y.2.2.2<=k):=by rcases hk with rfl|rfl<;>rfl
  rw[e];by_cases q:k<y.2.2.2
  ·rw[Yq q,Yx (by omega)];rfl
  ·rw[Yx q,Yq (by omega)];rfl
 rcases hcases with e|e|e|e|e|e|e|e|e
 ·exact other 1 e rfl rfl λ_=>rfl
 ·exact other 2 e rfl rfl λ_=>rfl
 ·subst e;generalize hx3:ZaH (Zg p0 l) x d=x3;have hx3':ZaH p0 x d=x3:=by rw[<-hx3];unfold ZaH;rw[hchip]
  have hcur:Zv (p0,s,g,x,3,hd) 3 d=x3:=by rw[<-hx3'];rfl
  have hrd:rdS (p0,s,g,x,3,hd) 3 d=(x3,g++[x3.2.2.1]):=by show (ZaH p0 x d,g++[(ZaH p0 x d).2.2.1])=_;rw[hx3']
  have hen:Zi5 3 x3=le3 x3.2.2.2:=rfl;have hby:Zb7 (p0,s,g,x,3,hd) 3 d=g++[x3.2.2.1]:=by unfold Zb7;rw[hcur];rfl
  have hch:ZaJ (p0,s,g,x,3,hd) l d=bif le3 x3.2.2.2&& !(Zh (Zg p0 l) s (g++[x3.2.2.1])).2 then (true,finX (Zg p0 l) s (g++[x3.2.2.1]) l,g++[x3.2.2.1],x3,Zg p0 l) else (false,cpu0,[],x3,Zg p0 l):=by unfold ZaJ;simp only[hsx,hx3];rfl
  have hf:finS (p0,s,g,x,3,hd) l d=bif le3 x3.2.2.2 then (bif (Zh (Zg p0 l) s (g++[x3.2.2.1])).2 then (Zj8,false) else (finX (Zg p0 l) s (g++[x3.2.2.1]) l,true)) else (Zj8,false):=by unfold finS;simp only[hr,hrd,hen,Yb];cases le3 x3.2.2.2<;>rfl
  rw[hch,hf,hcur,hby];cases le3 x3.2.2.2
  ·exact⟨rfl,λe=>by simp at e,rfl,rfl⟩
  ·cases (Zh (Zg p0 l) s (g++[x3.2.2.1])).2
   ·exact⟨rfl,λ_=>⟨rfl,rfl⟩,rfl,rfl⟩
   ·exact⟨rfl,λe=>by simp at e,rfl,rfl⟩
 ·exact last 4 e rfl rfl (ends45 4 (.inl rfl))
 ·exact last 5 e rfl rfl (ends45 5 (.inr rfl))
 ·exact last 6 e rfl rfl λy=>by cases decide ((6:Int)<y.2.2.2)<;>rfl
 ·exact other 7 e rfl rfl λ_=>rfl
 ·exact other 8 e rfl rfl λ_=>rfl
 ·exact other 9 e rfl rfl λ_=>rfl
def Zys (n:Int):Int:=bif n==2 then 1 else bif n==3||n==7 then 2 else n-1
def Zzz (c:CORT) (it:List ITMT):Prop:=
 (1<=c.2.2.2.2.1/\c.2.2.2.2.1<=9)/\((c.2.2.2.2.1=8\/c.2.2.2.2.1=9\/c.2.2.2.2.1=1)\/∃l y,it=l++[y]/\y.2.1=c.2.2.2.1/\y.2.2.2.1=Zys c.2.2.2.2.1)
theorem ZO9 (c:TC) (s:Int) (h:Bool):idlX c s h=8\/idlX c s h=9\/idlX c s h=1:=by
 unfold idlX;cases h
 ·cases c.2.2.2.2.1&&s==0
  ·exact .inr (.inr rfl)
  ·exact .inr (.inl rfl)
 ·exact .inl rfl
theorem ZjD (it:List ITMT) (h:c.2.2.2.2.1=8\/c.2.2.2.2.1=9\/c.2.2.2.2.1=1):Zzz c it:=⟨by omega,.inl h⟩
theorem ZyS (p:TC) (s:Int) (g:List Int) (h:Bool) (l:LINT) (it:List ITMT):Zzz (endX p s g h l) it:=by
 apply ZjD;unfold endX;cases (Zh p s g).2
 ·exact ZO9 _ _ _
 ·exact ZO9 _ _ _
theorem ZOP (h:Zzz c it) (l:LINT) (d:Int) (hr:l.2.2.1=false):Zzz (Zk c l d) (ZcQ it c (Zv c (Zp c) d) (Zp c)):=by
 obtain⟨hn,h⟩:=h;have hsx:=ZKR hn;have hst:Zp c=c.2.2.2.2.1:=hsx;rw[hst];obtain⟨p0,s,g,x,n,hd⟩:=c;simp only at hn hsx h;have get:∀k:Int,n=k->(k==8)=false->(k==9)=false->(k==1)=false->∃l y,it=l++[y]/\y.2.1=x/\y.2.2.2.1=Zys k:=λk hk h8 h9 h1=>by
  subst hk;rcases h with (h|h|h)|h
  ·rw[h] at h8;simp at h8
  ·rw[h] at h9;simp at h9
  ·rw[h] at h1;simp at h1
  ·exact h
 have more:∀k:Int,n=k->(k=4\/k=5\/k=6)->Zzz (Zk (p0,s,g,x,n,hd) l d) (ZcQ it (p0,s,g,x,n,hd) (Zv (p0,s,g,x,n,hd) n d) n):=λk hk h4=>by
  subst hk;have b1:(n==1)=false:=by rcases h4 with rfl|rfl|rfl<;>rfl
  have b2:(n==2||n==7)=false:=by rcases h4 with rfl|rfl|rfl<;>rfl
  have b3:(n==3)=false:=by rcases h4 with rfl|rfl|rfl<;>rfl
  have b8:(n==8)=false:=by rcases h4 with rfl|rfl|rfl<;>rfl
  have b9:(n==9)=false:=by rcases h4 with rfl|rfl|rfl<;>rfl
  have hck:Zk (p0,s,g,x,n,hd) l d=bif decide (n<x.2.2.2)&& !(n==6) then (Zg p0 l,s,g,x,n+1,hd) else endX (Zg p0 l) s g hd l:=by unfold Zk;simp only[hr,hsx,b1,b2,b3,b8,b9,Yb]
  rw[hck];cases hb:decide (n<x.2.2.2)&& !(n==6)
  ·exact ZyS _ _ _ _ _ _
  ·obtain⟨l',y,rfl,y1,y2⟩:=get n rfl b8 b9 b1;have h6:n≠6:=by simp at hb;exact hb.2
   refine⟨⟨by show 1<=n+1;omega,by show n+1<=9;omega⟩,.inr ⟨l',(y.1,x,y.2.2.1,n,y.2.2.2.2),?_,rfl,?_⟩⟩
   ·have e:Zys n=n-1:=by rcases h4 with rfl|rfl|rfl<;>rfl
    rw[e] at y2;have w:IntKind.wrap .i64 (y.2.2.2.1+1)=n:=by rw[y2,wrap_i64 _ (by omega) (by omega)];omega
    rcases h4 with rfl|rfl|rfl
    ·show Zbt (l'++[y]) _=_;rw[Zac,w];rfl
    ·show Zbt (l'++[y]) _=_;rw[Zac,w];rfl
    ·exact absurd rfl h6
   ·show n=Zys (n+1);rcases h4 with rfl|rfl|rfl
    ·rfl
    ·rfl
    ·exact absurd rfl h6
 have hcases:n=1\/n=2\/n=3\/n=4\/n=5\/n=6\/n=7\/n=8\/n=9:=by omega
 have wait:∀k:Int,k=3\/k=7->1<=k/\k<=9:=λk hk=>by omega
 rcases hcases with e|e|e|e|e|e|e|e|e
 ·subst e;have hck:Zk (p0,s,g,x,1,hd) l d=(Zg p0 l,s,g,x,2,hd):=by unfold Zk;simp only[hr,hsx];rfl
  rw[hck];exact⟨by show (1:Int)<=2/\(2:Int)<=9;decide,.inr ⟨it,_,rfl,rfl,rfl⟩⟩
 ·subst e;obtain⟨l',y,rfl,y1,y2⟩:=get 2 rfl rfl rfl rfl;have hck:Zk (p0,s,g,x,2,hd) l d=(Zg p0 l,s,g,x,bif l.1|| !Zq x.1 then 3 else 7,bif l.1|| !Zq x.1 then l.2.1 else hd):=by unfold Zk;simp only[hr,hsx];show (bif l.1|| !Zq x.1 then _ else _)=_;cases l.1|| !Zq x.1<;>rfl
  have w:IntKind.wrap .i64 (y.2.2.2.1+1)=2:=by rw[y2];rfl
  rw[hck];refine⟨wait _ (by cases l.1|| !Zq x.1<;>simp),.inr ⟨l',(y.1,x,y.2.2.1,2,y.2.2.2.2),?_,rfl,?_⟩⟩
  ·show Zbt (l'++[y]) _=_;rw[Zac,w];rfl
  ·show (2:Int)=Zys (bif l.1|| !Zq x.1 then 3 else 7);cases l.1|| !Zq x.1<;>rfl
 ·subst e;obtain⟨l',y,rfl,y1,y2⟩:=get 3 rfl rfl rfl rfl;have hck:Zk (p0,s,g,x,3,hd) l d=bif le3 (ZaH (Zg p0 l) x d).2.2.2 then endX (Zg p0 l) s (g++[(ZaH (Zg p0 l) x d).2.2.1]) hd l else (Zg p0 l,s,g++[(ZaH (Zg p0 l) x d).2.2.1],ZaH (Zg p0 l) x d,4,hd):=by unfold Zk;simp only[hr,hsx];rfl
  rw[hck];cases le3 (ZaH (Zg p0 l) x d).2.2.2
  ·have w:IntKind.wrap .i64 (y.2.2.2.1+1)=3:=by rw[y2];rfl
   refine⟨by show (1:Int)<=4/\(4:Int)<=9;decide,.inr ⟨l',(y.1,ZaH (Zg p0 l) x d,y.2.2.1,3,y.2.2.2.2),?_,rfl,rfl⟩⟩;have hcur:Zv (p0,s,g,x,3,hd) 3 d=ZaH (Zg p0 l) x d:=by unfold ZaH;rw[ZrD];rfl
   rw[hcur];show Zbt (l'++[y]) _=_;rw[Zac,w];rfl
  ·exact ZyS _ _ _ _ _ _
 ·exact more 4 e (.inl rfl)
 ·exact more 5 e (.inr (.inl rfl))
 ·exact more 6 e (.inr (.inr rfl))
 ·subst e;obtain⟨l',y,rfl,y1,y2⟩:=get 7 rfl rfl rfl rfl;have hck:Zk (p0,s,g,x,7,hd) l d=(Zg p0 l,s,g,x,bif l.1|| !Zq x.1 then 3 else 7,bif l.1|| !Zq x.1 then l.2.1 else hd):=by unfold Zk;simp only[hr,hsx];show (bif l.1|| !Zq x.1 then _ else _)=_;cases l.1|| !Zq x.1<;>rfl
  rw[hck];refine⟨wait _ (by cases l.1|| !Zq x.1<;>simp),.inr ⟨l',(y.1,x,IntKind.wrap .i64 (y.2.2.1+1),y.2.2.2),?_,rfl,?_⟩⟩
  ·show Zbt (l'++[y]) _=_;rw[Zac];rfl
  ·show y.2.2.2.1=Zys (bif l.1|| !Zq x.1 then 3 else 7);rw[y2];cases l.1|| !Zq x.1<;>rfl
 ·subst e;have hck:Zk (p0,s,g,x,8,hd) l d=(Zg p0 l,s,g,x,idlX (Zg p0 l) s l.2.1,hd):=by unfold Zk;simp only[hr,hsx];rfl
  rw[hck];exact ZjD _ (ZO9 _ _ _)
 ·subst e;have hck:(Zk (p0,s,g,x,9,hd) l d).2.2.2.2.1=bif ZbI (Zg p0 l) l==0 then (bif l.2.1 then 8 else 9) else (bif l.2.1 then 8 else 1):=by unfold Zk;simp only[hr,hsx];show (bif ZbI (Zg p0 l) l==0 then _ else _:CORT).2.2.2.2.1=_;cases ZbI (Zg p0 l) l==0<;>rfl
  refine ZjD _ ?_;rw[hck];cases ZbI (Zg p0 l) l==0<;>cases l.2.1<;>simp
def RbOk (st:STT):Prop:=ZJg st.1.1/\Zzz st.1.1 st.2.2.1
theorem ZVM (b:BRDT) (s0:TC) (st:STT) (i:INPT) (h:RbOk st):RbOk (Zas b s0 st i):=by
 have hc:(Zas b s0 st i).1.1=Zk st.1.1 (ZaK b (Zn b st.1 i) i) (busS b (Zn b st.1 i) i).2:=Zfy b st.1 i;refine⟨by rw[hc];exact ZKw _ _ _ h.1,?_⟩;rw[hc];show Zzz _ (ZcQ st.2.2.1 st.1.1 (Zv st.1.1 (nowS st.1 i) (busS b (Zn b st.1 i) i).2) (nowS st.1 i));have hl2:(ZaK b (Zn b st.1 i) i).2.2.1=i.2.2.1:=rfl;cases hr:i.2.2.1
 ·have hnow:nowS st.1 i=Zp st.1.1:=by unfold nowS;rw[hr];rfl
  rw[hnow];exact ZOP h.2 _ _ (by rw[hl2,hr])
 ·refine ZjD _ (.inr (.inr ?_));unfold Zk;rw[hl2,hr];rfl
variable {α β:Type}
theorem Zmy (c:Bool) (x y:α×β):(bif c then x.1 else y.1)=(bif c then x else y).1:=by cases c<;>rfl
theorem Zmx (c:Bool) (x y:α×β):(bif c then x.2 else y.2)=(bif c then x else y).2:=by cases c<;>rfl
theorem Zl7 (p:α×β):(p.1,p.2)=p:=rfl
theorem ZVD (k t:Int) (x:TY) (d:Int) (i o:Bool):(Znp k t x d i o).1=t:=by
 simp only[Znp,ZwI,RT.val];cases t==8
 ·cases t==9
  ·cases t==10
   ·cases rOn k<;>rfl
   ·rfl
  ·rfl
 ·rfl
theorem ZT3 (c:CORT) (l:LINT) (d:Int):(ZcT c l d).1=bif l.2.2.1 then 10 else Zp c:=ZVD _ _ _ _ _ _
theorem Zsg (d:QT3):(ZbH d).2.2=Zag d:=by rw[ZKg];cases Zag d<;>rfl
theorem ZP4 (b:BRDT) (s:SYST) (i:INPT) (hr:i.2.2.1=true):
  (busS b (Zn b s i) i).2=0/\(ZW b s i).1=(Zk s.1 (ZaK b (Zn b s i) i) 0,s.2.1,ZVy (Zn b s i).2.2.1 0,(s.2.2.2.1.1,s.2.2.2.1.2.1,0),ZcH s,s.2.2.2.2.2)/\Zbf b s i=false:=by
 have hb:busS b (Zn b s i) i=(Zn b s i,0):=by unfold busS;dsimp only;rw[hr];rfl
 have hw:Zgp s i=false:=by unfold Zgp;rw[hr];rfl
 have hc:ZjU b s i=(Zk s.1 (ZaK b (Zn b s i) i) 0,s.2.1,(Zn b s i).2.2.1,s.2.2.2.1,ZcH s,s.2.2.2.2.2):=by unfold ZjU;dsimp only;rw[hb];rfl
 have hwr:ZcM b s i=ZjU b s i:=by unfold ZcM;rw[hw];rfl
 have hm:Zbf b s i=false:=by
  unfold Zbf;have:ZhQ (pinS b s i)=false:=by
   cases h:ZhQ (pinS b s i)
   ·rfl
   ·unfold pinS at h;have:=(ZgQ h).1;rw[show (ZaK b (Zn b s i) i).2.2.1=i.2.2.1 from rfl,hr] at this;simp at this
  rw[this];rfl
 refine⟨by rw[hb],?_,hm⟩;show ZqZ (Zh4 b s i) i.2.2.1=_;have:Zh4 b s i=ZjU b s i:=by unfold Zh4;dsimp only;rw[hm,hwr];rfl
 rw[this,hc,hr];rfl
theorem ZTm (b:BRDT) (s:SYST) (i:INPT) (hr:i.2.2.1=false) {L:LINT} {D:Int} {B:PICT} {w k7 x71 x72 d2:Bool} {d1 p:Int} {Wm:List Cell} {Wd:QT3}
  (hL:ZaK b (Zn b s i) i=L) (hD:(busS b (Zn b s i) i).2=D) (hB:(busS b (Zn b s i) i).1.2.2.1=B) (hw:(Zp s.1==3&&ZbY s.1.2.2.2.1.1)=w) (h7:(s.1.2.2.2.1.1 !=7)=k7)
  (hp:IntKind.wrap .u8 s.1.2.2.2.1.2.1=p) (h71:(Ze9 b p).2=x71) (h72:x71=true->(Ze9 b p).1=x72) (hd:ZiE b p=(d1,d2))
  (hm:(bif w then bif k7 then ZaL b.2.1 s.2.1 s.1.2.2.2.1.2.1 s.1.2.2.2.1.2.2.1 else s.2.1 else s.2.1)=Wm)
  (hwd:(bif w then bif k7 then s.2.2.2.1 else bif x71 then s.2.2.2.1 else bif d2 then Zic s.2.2.2.1 d1 s.1.2.2.2.1.2.2.1 else s.2.2.2.1 else s.2.2.2.1)=Wd):
  Zbf b s i=(ZhQ (ZcT s.1 L D)&&Zag Wd)/\pinS b s i=ZcT s.1 L D/\
  (ZW b s i).1=(Zk s.1 L D,(bif ZhQ (ZcT s.1 L D)&&Zag Wd then ZaL b.2.1 Wm (ZbH Wd).2.1.1 (ZbH Wd).2.1.2 else Wm),(bif w then bif k7 then B else bif x71 then ZmI B x72 s.1.2.2.2.1.2.2.1 else B else B),
   (bif ZhQ (ZcT s.1 L D)&&Zag Wd then (ZbH Wd).1 else Wd),ZcH s,(bif w then bif k7 then s.2.2.2.2.2 else s.2.2.2.2.2++[(p,s.1.2.2.2.1.2.2.1)] else s.2.2.2.2.2))/\
  (ZW b s i).2.2.2.2.1=(bif ZhQ (ZcT s.1 L D)&&Zag Wd then (ZbH Wd).2.1 else (0,0)):=by
 obtain⟨k1,k2,k3⟩:=ZhM b (Zn b s i) i;have hc:ZjU b s i=(Zk s.1 L D,s.2.1,B,s.2.2.2.1,ZcH s,s.2.2.2.2.2):=by unfold ZjU;dsimp only;rw[k1,k2,k3,hB,hL,hD];rfl
 have hws:Zgp s i=w:=by unfold Zgp;rw[hr];exact hw
 have hW:ZcM b s i=(Zk s.1 L D,Wm,(bif w then bif k7 then B else bif x71 then ZmI B x72 s.1.2.2.2.1.2.2.1 else B else B),Wd,ZcH s,(bif w then bif k7 then s.2.2.2.2.2 else s.2.2.2.2.2++[(p,s.1.2.2.2.1.2.2.1)] else s.2.2.2.2.2)):=by
  unfold ZcM Zm0;dsimp only;rw[hws,hc,hp,h7,hd,h71,<-hm,<-hwd];cases w
  ·rfl
  ·cases k7
   ·cases hx:x71
    ·rfl
    ·rw[h72 hx];rfl
   ·rfl
 have hP:pinS b s i=ZcT s.1 L D:=by unfold pinS;rw[k1,hL,hD];rfl
 have hM:Zbf b s i=(ZhQ (ZcT s.1 L D)&&Zag Wd):=by unfold Zbf;rw[hP,hW]
 have hcell:(ZW b s i).2.2.2.2.1=(bif ZhQ (ZcT s.1 L D)&&Zag Wd then (ZbH Wd).2.1 else (0,0)):=by
  show (bif Zbf b s i then ((ZcM b s i).2.2.2.1.1,(ZcM b s i).2.2.2.1.2.1) else (0,0))=_;rw[hM,hW,ZKg];cases ZhQ (ZcT s.1 L D)
  ·rfl
  ·cases Zag Wd<;>rfl
 refine⟨hM,hP,?_,hcell⟩;show ZqZ (Zh4 b s i) i.2.2.1=_;rw[hr];show Zh4 b s i=_;unfold Zh4;dsimp only;rw[hM,hW,ZKg];cases ZhQ (ZcT s.1 L D)
 ·rfl
 ·cases Zag Wd<;>rfl
