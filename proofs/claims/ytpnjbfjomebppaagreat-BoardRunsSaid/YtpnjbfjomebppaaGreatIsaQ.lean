import Derived.Test.YtpnjbfjomebppaaGreatS3New
import Derived.Test.YtpnjbfjomebppaaGreatRunL
open Go.Proofs.Tryz (prog)
open Go.IntKind (u8 u16 i64)
set_option linter.unusedSimpArgs false
open Go Go.S3 Go.Proofs
set_option linter.unusedVariables false
set_option maxRecDepth 100000
namespace Go.Proofs.YtpnjbfjomebppaaGreat
noncomputable section
def ZZK:LS:={n:=53,Sl:=[(3,.fix (A.loc 0 0)),(5,.tip 0),(6,.code (So R.bool)),(9,.code (So rcCE)),(10,.code (So Kc)),(11,.code (So Kc))],Bx:=[[.many (R.Pq Kb Ka)]],Sg:=[⟨(R.Pq Kb Ka),75,false⟩]}
def ZJV (a:QT9):RT (Option (Go1 (QT9))):=
 let x1:Int×Int:=R.get (R.Pq Kb Ka) a.2.1 a.2.2.2.1
 let x2:=x1.1
 let x3:= !a.1&&decide (x2>=a.2.2.2.2.1.1)
 let x4:List (Int×Int):=a.2.2.2.2.2.1++[a.2.2.2.2.1]
 let x5:= !x3||(!a.2.2.2.2.1.2 !=0||Nat.ble (Le x4) most)
 let x6:=x2 !=a.2.2.2.2.1.1
 let x7:List (Int×Int):=bif x3 then bif a.2.2.2.2.1.2 !=0 then x4 else a.2.2.2.2.2.1 else a.2.2.2.2.2.1
 let x8:List (Int×Int):=x7++[x1]
 .br (decide (a.2.2.2.1<a.2.2.1)) (.br (!Ze a.2.2.2.1 (Le a.2.1)||(!x5||(!x6||Nat.ble (Le x8) most))) (.br (!Ze a.2.2.2.1 (Le a.2.1)||x5) (.br (Ze a.2.2.2.1 (Le a.2.1)) (Ls (Go1.cont (x3||a.1,a.2.1,a.2.2.1,i64.wrap (a.2.2.2.1+1),a.2.2.2.2.1,bif x6 then x8 else x7,PUnit.unit))) Ln) Ln) Ln) (Ls (Go1.brk (a.1,a.2.1,a.2.2.1,a.2.2.2.1,a.2.2.2.2.1,a.2.2.2.2.2.1,PUnit.unit)))
def ZJW:Ora:=ZaX false ZZK ZJV (λa=>1000000000000)
theorem ZNn:ZaF (envX prog [] [] 511 8) (.block 0 (.loop (Z4 Tryz.f165.body 0))) ZJW:=
 loopP trivial
def ZJU (m:List (Int×Int)) (c:Int×Int):RT (Option (List (Int×Int))):=
 let x1:QT9:=(false,m,iN (Le m),0,c,[],())
 let x2:=runF false ZJV (λa=>1000000000000) x1
 let x3:QT9:=(getO (false,x1) x2).2
 let x4:=x3.2.2.2.2
 let x5:=x4.1
 let x6:= !x3.1&&x5.2 !=0
 let x7:=x4.2.1
 let x8:List (Int×Int):=x7++[x5]
 .br (okB x2) (.br (!x6||Nat.ble (Le x8) most) (Ls (bif x6 then x8 else x7)) Ln) Ln
def ZZL (m:List (Int×Int)) (c:Int×Int):List (Int×Int):=getO [] (ZJU m c).val
def ZJX (m:List (Int×Int)) (c:Int×Int):Bool:=okB (ZJU m c).val
def ZS1:En:=frzE (newE Zc3 ZuU ZS4 (λa=>some (ZJX a.1 a.2)) (λa=>ZZL a.1 a.2))
theorem ZS2:Za prog 165 (newE Zc3 ZuU ZS4 (λa=>some (ZJX a.1 a.2)) (λa=>ZZL a.1 a.2)):=
 Znn (P:=prog) (n:=511) (k:=8) (l:=[]) (ol:=[(0,ZJW)]) trivial Tryz.func165 rfl (by kernel_rfl) Tryz.call165 ⟨ZNn,Tv⟩ (r:=Zc3) (T:=ZuU) (ts:=ZS4) (t:=λa=>ZJU a.1 a.2) (λa=>by kernel_rfl)
theorem ZJT:Za prog 165 ZS1:=ZCO ZS2
def ZTm:LS:={n:=21,Sl:=[(3,.tip 0),(10,.code (So rcCE)),(11,.code (So Kc)),(12,.code (So Kc))],Bx:=[],Sg:=[⟨(R.Pq Kb Ka),75,false⟩]}
def Zhf (a:List (Int×Int)×Int×Int×List (Int×Int)×PUnit):RT (Option (Go1 (List (Int×Int)×Int×Int×List (Int×Int)×PUnit))):=
 .br (decide (a.2.2.1<a.2.1)) (.br (!Ze a.2.2.1 (Le a.1)||ZJX a.2.2.2.1 (R.get (R.Pq Kb Ka) a.1 a.2.2.1)) (.br (Ze a.2.2.1 (Le a.1)) (Ls (Go1.cont (a.1,a.2.1,i64.wrap (a.2.2.1+1),Stg.l (newG Zc3 ZuU (ZZL a.2.2.2.1 (R.get (R.Pq Kb Ka) a.1 a.2.2.1))),PUnit.unit))) Ln) Ln) (Ls (Go1.brk (a.1,a.2.1,a.2.2.1,a.2.2.2.1,PUnit.unit)))
def ZA2:Ora:=ZaX false ZTm Zhf (λa=>1000000000000)
theorem ZEC:ZaF (envX prog [(105,ZmY),(165,ZS1)] [] 63 8) (.block 0 (.loop (Z4 Tryz.f93.body 0))) ZA2:=
 loopP ⟨Zk7,ZJT,Tv⟩
def Zla (l:List (Int×Int)):RT (Option (List (Int×Int))):=
 let x1:=runF false Zhf (λa=>1000000000000) (l,iN (Le l),0,[],())
 .br (smC l) (.br (!vldB l||Nat.ble (Le ([]++l)) most) (.br (vldB l) (Ls ([]++l)) (.br (okB x1) (Ls (getO (false,l,iN (Le l),0,[],()) x1).2.2.2.2.1) Ln)) Ln) Ln
def ZA3 (l:List (Int×Int)):List (Int×Int):=getO [] (Zla l).val
def ZoI (l:List (Int×Int)):Bool:=okB (Zla l).val
def ZED:En:=frzE (newE Zc3 ZuU ZXh (λa=>some (ZoI a)) (λa=>ZA3 a))
theorem ZNq:Za prog 93 (newE Zc3 ZuU ZXh (λa=>some (ZoI a)) (λa=>ZA3 a)):=
 Znn (P:=prog) (n:=63) (k:=8) (l:=[(105,ZmY),(165,ZS1)]) (ol:=[(0,ZA2)]) ⟨Zk7,ZJT,Tv⟩ Tryz.func93 rfl (by kernel_rfl) Tryz.call93 ⟨ZEC,Tv⟩ (r:=Zc3) (T:=ZuU) (ts:=ZXh) (t:=λa=>Zla a) (λa=>by kernel_rfl)
theorem ZA1:Za prog 93 ZED:=ZCO ZNq
abbrev ZvX:List Sh:=[So Kb,So (R.sl Ka)]
def ZTt:LS:={n:=27,Sl:=[(0,.code (So Kb)),(1,.code (So (R.sl Ka))),(5,.tip 0),(8,.code (So Kc)),(9,.code (So Kc))],Bx:=[],Sg:=[⟨(R.Pq Kb Ka),75,true⟩]}
def Zhg (a:QT30):RT (Option (Go1 (QT30))):=
 let x1:List (Int×Int):=a.2.2.2.2.1++[(u16.wrap (a.1+u16.wrap a.2.2.2.1),R.get Ka a.2.1 a.2.2.2.1)]
 let x2:= !Ze a.2.2.2.1 (Le a.2.1)||Nat.ble (Le x1) most
 .br (decide (a.2.2.2.1<a.2.2.1)) (.br (!x2||Ze a.2.2.2.1 (Le a.2.1)) (.br (x2) (Ls (Go1.cont (a.1,a.2.1,a.2.2.1,i64.wrap (a.2.2.2.1+1),x1,PUnit.unit))) Ln) Ln) (Ls (Go1.brk (a.1,a.2.1,a.2.2.1,a.2.2.2.1,a.2.2.2.2.1,PUnit.unit)))
def ZA4:Ora:=ZaX false ZTt Zhg (λa=>1000000000000)
theorem ZFh:ZaF (envX prog [(93,ZED)] [] 127 8) (.block 0 (.loop (Z4 Tryz.f59.body 0))) ZA4:=
 loopP ⟨ZA1,Tv⟩
def Zpn (t:Int) (b:List Int):RT (Option (List (Int×Int))):=
 let x1:=runF false Zhg (λa=>1000000000000) (t,b,iN (Le b),0,[],())
 let x2:List (Int×Int):=(getO (false,t,b,iN (Le b),0,[],()) x1).2.2.2.2.2.1
 .br (okB x1) (.br (ZoI x2) (Ls (Stg.l (newG Zc3 ZuU (ZA3 x2)))) Ln) Ln
def ZTu (t:Int) (b:List Int):List (Int×Int):=getO [] (Zpn t b).val
def ZFi (t:Int) (b:List Int):Bool:=okB (Zpn t b).val
theorem ZND:Za prog 59 (newE Zc3 ZuU ZvX (λa=>some (ZFi a.1 a.2)) (λa=>ZTu a.1 a.2)):=
 Znn (P:=prog) (n:=127) (k:=8) (l:=[(93,ZED)]) (ol:=[(0,ZA4)]) ⟨ZA1,Tv⟩ Tryz.func59 rfl (by kernel_rfl) Tryz.call59 ⟨ZFh,Tv⟩ (r:=Zc3) (T:=ZuU) (ts:=ZvX) (t:=λa=>Zpn a.1 a.2) (λa=>by kernel_rfl)
end
end Go.Proofs.YtpnjbfjomebppaaGreat
open Go Go.S3 Go.Proofs Go.Proofs.Cells
namespace Go.Proofs.YtpnjbfjomebppaaGreat
noncomputable section
theorem ZSu (m:List Cell) (c:Cell) (hv:Vld m) (hm:m.length+1<=most):ZJX m c=true/\ZZL m c=putX m c:=by have h:=Zom m c hv hm;have e:ZJU m c=Ztx m c:=rfl;simp only[Zty,ZNp,<-e] at h;exact h
theorem ZM6 (l:List Cell) (hl:l.length+1<=most):ZoI l=true/\ZA3 l=normX l:=by
 have hms:=mst;have hs:smC l=true:=(Zs7.2 hl:sm l=true);have hv:(Zla l).val=some (normX l):=by
  cases hb:vldB l with
  |true=>
   have e:Nat.ble l.length most=true:=by rw[YF];omega
   simp only[Zla,RT.val,hs,hb,List.nil_append,e,Ya,Ye,Yi,Zh8 (ZmM.1 hb)]
  |false=>
   obtain⟨r,hr,h1,i,hR⟩:=ZM (fl:=false) (t:=Zhf) (fuel:=λa=>1000000000000)
    (λa=>∃i:Nat,i<=l.length/\a=(l,(l.length:Int),(i:Int),normX (l.take i),()))
    (λa=>Int.toNat (a.2.1-a.2.2.1)) (λr=>r.1=false/\∃i:Nat,r.2=(l,(l.length:Int),(i:Int),normX l,()))
    (by
     rintro a ⟨i,hi,rfl⟩;by_cases hlt:i<l.length
     ·left;have d:decide ((i:Int)<(l.length:Int))=true:=by simpa using hlt
      have r1:=Zax l i hlt;have hlen:=ZeN (l.take i);rw[YJ] at hlen;have hp:=ZSu (normX (l.take i)) (el l i) (Zj7 _) (by omega);refine⟨_,?_,⟨i+1,hlt,rfl⟩,by simp only;omega⟩;rw[ZDR l i hlt,Zlu];simp only[Zhf,RT.val,d,r1,ZcL,hp.1,hp.2,Ya,Yh,Zim i (by omega)]
     ·right;left;have d:decide ((i:Int)<(l.length:Int))=false:=by simpa using hlt
      have e:l.take i=l:=YY (by omega);rw[e]
      exact⟨_,by simp only[Zhf,RT.val,d,Yc],rfl,i,rfl⟩)
    (l,iN l.length,0,[],()) ⟨0,Yt _,rfl⟩ (by simp only[iN,Le];omega)
   obtain⟨r1,r2⟩:=r;simp only at h1 hR;subst h1 hR;simp only[Zla,RT.val,hs,hb,hr,okB,getO,Ya,Yc,Yl,Ys]
 exact⟨by simp only[ZoI,hv];rfl,by simp only[ZA3,hv,getO]⟩
theorem ZM7 (t:Int) (b:List Int) (hb:b.length+1<=most):ZFi t b=true/\ZTu t b=Zss t b:=by
 have hms:=mst;obtain⟨r,hr,h1,hR⟩:=ZM (fl:=false) (t:=Zhg) (fuel:=λa=>1000000000000)
  (λa=>∃i:Nat,i<=b.length/\a=(t,b,(b.length:Int),(i:Int),Zrz t b i,()))
  (λa=>Int.toNat (a.2.2.1-a.2.2.2.1)) (λr=>r.1=false/\r.2=(t,b,(b.length:Int),(b.length:Int),Zrz t b b.length,()))
  (by
   rintro a ⟨i,hi,rfl⟩;by_cases hlt:i<b.length
   ·left;have d:decide ((i:Int)<(b.length:Int))=true:=by simpa using hlt
    have r1:=Zax b i hlt;have hl:∀x:Cell,Nat.ble (Zrz t b i++[x]).length most=true:=λx=>by rw[YF,Yd,Zry];simp only[List.length_singleton];omega
    refine⟨_,?_,⟨i+1,hlt,rfl⟩,by simp only;omega⟩;rw[ZP1];have g:=get_d b i;simp only[Zhg,RT.val,d,r1,g,hl,Ya,Ye,Yi,Zim i (by omega)]
   ·right;left;have d:decide ((i:Int)<(b.length:Int))=false:=by simpa using hlt
    have e:i=b.length:=by omega
    subst e
    exact⟨_,by simp only[Zhg,RT.val,d,Yc],rfl,rfl⟩)
  (t,b,iN b.length,0,[],()) ⟨0,Yt _,rfl⟩ (by simp only[iN,Le];omega)
 obtain⟨r1,r2⟩:=r;simp only at h1 hR;subst h1 hR;have hn:=ZM6 (Zrz t b b.length) (by rw[Zry];exact hb);have hv:(Zpn t b).val=some (Zss t b):=by simp only[Zpn,RT.val,hr,okB,getO,Ya,hn.1,hn.2,Zss]
 exact⟨by simp only[ZFi,hv];rfl,by simp only[ZTu,hv,getO]⟩
def ZvY:En:=frzE (newE Zc3 ZuU ZvX (λa=>some (smB a.2)) (λa=>Zss a.1 a.2))
theorem ZtE:Za Tryz.prog 59 ZvY:=ZCO (ZPK ZND λa _ h=>by
 have hb:smB a.2=true:=by cases hq:smB a.2 with
  |true=>rfl
  |false=>rw[hq] at h;exact absurd rfl h
 obtain⟨h1,h2⟩:=ZM7 a.1 a.2 (Zs7.1 hb)
 exact⟨by rw[h1];simp,h2⟩)
def ZLL (s:List Int×Int):RT (Option (Bool×List Int×Int)):=
 .br (Zk s 2) (Ls (((Zd s 2).1==1,(Zd s 2).2))) Ln
def Zap (s:List Int×Int):Bool×List Int×Int:=getO (Zqd.Df,ZHM.Df) (ZLL s).val
def ZbC (s:List Int×Int):Bool:=okB (ZLL s).val
def Z3J:En:=boxE ZHM ZBh Zqd (λa=>some (ZbC a.1)) (λa=>Zap a.1)
theorem Z1b:Za prog 69 Z3J:=
 ZcQ (P:=prog) (n:=7) (k:=8) (l:=[(68,Zdc)]) (ol:=[]) ⟨Zbj,Tv⟩ Tryz.func69 rfl (by kernel_rfl) Tryz.call69 trivial (rb:=ZHM) (ts:=ZBh) (rs:=Zqd) (t:=λa=>ZLL a.1) (λa=>by kernel_rfl)
abbrev ZfU:R:=R.Pq Kb (R.Pq Kb (R.Pq R.bool Kc))
abbrev ZfV:Nat:=110
def ZHI:LS:={n:=44,Sl:=[(0,.fix (A.loc 0 0)),(5,.tip 0),(6,.code (So Kc))],Bx:=[[.many (R.Pq (R.sl Kc) Kc)]],Sg:=[⟨(R.Pq Kb (R.Pq Kb (R.Pq R.bool Kc))),110,false⟩]}
def ZeP (a:QT20):RT (Option (Go1 (QT20))):=
 let x1:= !Zk (Zb8 a.2.1).2 6||Ze (Zd (Zb8 a.2.1).2 6).1 (Le [0,3,15,255,4095,65535])
 let x2:= !x1
 let x3:= !Zk (Zd (Zd (Zb8 a.2.1).2 6).2 3).2 5
 let x4:Int:=(Zd (Zd (Zd (Zb8 a.2.1).2 6).2 3).2 5).1
 let x5:=Ze x4 (Le [0,0,1,2,5])
 let x6:=i64.wrap (i64.wrap (Zb8 a.2.1).1+R.get Kc [0,3,15,255,4095,65535] (Zd (Zb8 a.2.1).2 6).1)
 let x7:List (QT6):=a.2.2.1++[((Zb8 a.2.1).1,u16.wrap (if 65535<x6 then 65535 else x6),decide ((Zd (Zd (Zb8 a.2.1).2 6).2 3).1>0),R.get Kc [0,0,1,2,5] x4)]
 let x8:= !Zk (Zd (Zb8 a.2.1).2 6).2 3||(x3||(!x5||Nat.ble (Le x7) most))
 let x9:= !x8
 let x10:= !Zk (Zd (Zb8 a.2.1).2 6).2 3||(x3||x5)
 let x11:= !x10
 let x12:= !Zk (Zd (Zb8 a.2.1).2 6).2 3||Zk (Zd (Zd (Zb8 a.2.1).2 6).2 3).2 5
 .br (decide (a.1>0)) (.br (!ZgH a.2.1||(x2||(!Zk (Zb8 a.2.1).2 6||(x9||(x11||(!x12||Zk (Zd (Zb8 a.2.1).2 6).2 3)))))) (.br (!ZgH a.2.1||(x2||(!Zk (Zb8 a.2.1).2 6||(x9||(x11||x12))))) (.br (!ZgH a.2.1||(x2||(!Zk (Zb8 a.2.1).2 6||(x9||x10)))) (.br (!ZgH a.2.1||(x2||(!Zk (Zb8 a.2.1).2 6||x8))) (.br (!ZgH a.2.1||(x2||Zk (Zb8 a.2.1).2 6)) (.br (!ZgH a.2.1||x1) (.br (ZgH a.2.1) (Ls (Go1.cont (i64.wrap (a.1-1),(Zd (Zd (Zd (Zb8 a.2.1).2 6).2 3).2 5).2,x7,PUnit.unit))) Ln) Ln) Ln) Ln) Ln) Ln) Ln) (Ls (Go1.brk (a.1,a.2.1,a.2.2.1,PUnit.unit)))
def Zq7:Ora:=ZaX false ZHI ZeP (λa=>400)
theorem ZyE:ZaF (envX prog [(68,Zdc),(70,ZWQ)] [] 511 8) (.block 0 (.loop (Z4 Tryz.f188.body 0))) Zq7:=
 loopP ⟨Zbj,ZLH,Tv⟩
def Zhu (s:List Int×Int) (n:Int):RT (Option (List (QT6)×List Int×Int)):=
 let x1:QT20:=((Zd s (i64.wrap (n+1))).1,(Zd s (i64.wrap (n+1))).2,[],())
 let x2:=runF false ZeP (λa=>400) x1
 let x3:(List Int×Int)×List (QT6)×PUnit:=(getO (false,x1) x2).2.2
 .br (Zk s (i64.wrap (n+1))) (.br (okB x2) (Ls ((x3.2.1,x3.1))) Ln) Ln
def Zbx (s:List Int×Int) (n:Int):List (QT6)×List Int×Int:=getO ([],ZHM.Df) (Zhu s n).val
def Zd0 (s:List Int×Int) (n:Int):Bool:=okB (Zhu s n).val
def ZB7:En:=frzE (ZPM ZHM ZfU ZfV ZBC (λa=>some (Zd0 a.1 a.2)) (λa=>Zbx a.1 a.2))
theorem ZB8:Za prog 188 (ZPM ZHM ZfU ZfV ZBC (λa=>some (Zd0 a.1 a.2)) (λa=>Zbx a.1 a.2)):=
 ZWN (P:=prog) (n:=511) (k:=8) (l:=[(68,Zdc),(70,ZWQ)]) (ol:=[(0,Zq7)]) ⟨Zbj,ZLH,Tv⟩ Tryz.func188 rfl (by kernel_rfl) Tryz.call188 ⟨ZyE,Tv⟩ (rb:=ZHM) (r:=ZfU) (T:=ZfV) (ts:=ZBC) (t:=λa=>Zhu a.1 a.2) (λa=>by kernel_rfl)
theorem ZHG:Za prog 188 ZB7:=ZCO ZB8
abbrev ZWV:Rs:=Rs.one (So rcRG)
def ZWU (s:List Int×Int):RT (Option (List (QT6)×List Int×Int)):=
 let x1:List (QT6):=Stg.l (newG ZfU ZfV (Zbx s 2).1)++[(0,65535,true,i64.wrap (Int.tdiv (Zd (Zbx s 2).2 3).1 2))]
 .br (!Zd0 s 2||(!Zk (Zbx s 2).2 3||Nat.ble (Le x1) most)) (.br (!Zd0 s 2||Zk (Zbx s 2).2 3) (.br (Zd0 s 2) (Ls ((x1,(Zd (Zbx s 2).2 3).2))) Ln) Ln) Ln
def nMap (s:List Int×Int):List (QT6)×List Int×Int:=getO (ZWV.Df,ZHM.Df) (ZWU s).val
def ZPP (s:List Int×Int):Bool:=okB (ZWU s).val
def Z6E:En:=boxE ZHM ZBh ZWV (λa=>some (ZPP a.1)) (λa=>nMap a.1)
theorem ZWS:Za prog 123 Z6E:=
 ZcQ (P:=prog) (n:=7) (k:=8) (l:=[(68,Zdc),(188,ZB7)]) (ol:=[]) ⟨Zbj,ZHG,Tv⟩ Tryz.func123 rfl (by kernel_rfl) Tryz.call123 trivial (rb:=ZHM) (ts:=ZBh) (rs:=ZWV) (t:=λa=>ZWU a.1) (λa=>by kernel_rfl)
def ZHK:LS:={n:=75,Sl:=[(0,.fix (A.loc 0 0)),(5,.tip 0),(6,.code (So Kc))],Bx:=[[.many (R.Pq (R.sl Kc) Kc)]],Sg:=[⟨Ka,5,true⟩]}
def ZdD (a:QT28):RT (Option (Go1 (QT28))):=
 let x1:=Ze (Zd (Zd a.2.1 8).2 4).1 (Le [33,49,1,17])
 let x2:= !x1
 let x3:=Zk (Zd (Zd (Zd a.2.1 8).2 4).2 256).2 4
 let x4:= !x3
 let x5:=Zd (Zd (Zd (Zd a.2.1 8).2 4).2 256).2 4
 let x6:=x5.1
 let x7:=Ze x6 (Le [0,0,1,255])
 let x8:List Int:=a.2.2.1++[R.get Ka [33,49,1,17] (Zd (Zd a.2.1 8).2 4).1,u8.wrap (Zd (Zd (Zd a.2.1 8).2 4).2 256).1,R.get Ka [0,0,1,255] x6]
 let x9:= !(Zd a.2.1 8).1==0||(!Zk (Zd a.2.1 8).2 4||(x2||(!Zk (Zd (Zd a.2.1 8).2 4).2 256||(x4||(!x7||Nat.ble (Le x8) most)))))
 let x10:= !x9
 let x11:= !(Zd a.2.1 8).1==0||(!Zk (Zd a.2.1 8).2 4||(x2||(!Zk (Zd (Zd a.2.1 8).2 4).2 256||(x4||x7))))
 let x12:= !x11
 let x13:= !(Zd a.2.1 8).1==0||(!Zk (Zd a.2.1 8).2 4||(x2||(!Zk (Zd (Zd a.2.1 8).2 4).2 256||x3)))
 let x14:= !x13
 let x15:= !(Zd a.2.1 8).1==0||(!Zk (Zd a.2.1 8).2 4||(x2||Zk (Zd (Zd a.2.1 8).2 4).2 256))
 let x16:= !x15
 let x17:= !(Zd a.2.1 8).1==0||(!Zk (Zd a.2.1 8).2 4||x1)
 let x18:= !x17
 let x19:= !(Zd a.2.1 8).1==0||Zk (Zd a.2.1 8).2 4
 let x20:= !x19
 let x21:List Int:=a.2.2.1++[62,(Zdo (Zd a.2.1 8).2).1,211,u8.wrap (Zd (Zdo (Zd a.2.1 8).2).2 8).1]
 let x22:=(Zd a.2.1 8).1==0||(!(Zd a.2.1 8).1==1||(!Zhx (Zd a.2.1 8).2||(!Zk (Zdo (Zd a.2.1 8).2).2 8||Nat.ble (Le x21) most)))
 let x23:= !x22
 let x24:=(Zd a.2.1 8).1==0||(!(Zd a.2.1 8).1==1||(!Zhx (Zd a.2.1 8).2||Zk (Zdo (Zd a.2.1 8).2).2 8))
 let x25:= !x24
 let x26:=(Zd a.2.1 8).1==0||(!(Zd a.2.1 8).1==1||Zhx (Zd a.2.1 8).2)
 let x27:= !x26
 let x28:=(Zd a.2.1 8).1==0||((Zd a.2.1 8).1==1||(!(Zd a.2.1 8).1==2||Nat.ble (Le (a.2.2.1++[251])) most))
 let x29:= !x28
 let x30:List Int:=a.2.2.1++[62,u8.wrap (i64.wrap (16+(Zd (Zd a.2.1 8).2 16).1)),211,0,62,(Zdo (Zd (Zd a.2.1 8).2 16).2).1,211,1,62,0,211,1]
 let x31:=(Zd a.2.1 8).1==0||((Zd a.2.1 8).1==1||((Zd a.2.1 8).1==2||(!(Zd a.2.1 8).1==3||(!Zk (Zd a.2.1 8).2 16||(!Zhx (Zd (Zd a.2.1 8).2 16).2||Nat.ble (Le x30) most)))))
 let x32:= !x31
 let x33:=(Zd a.2.1 8).1==0||((Zd a.2.1 8).1==1||((Zd a.2.1 8).1==2||(!(Zd a.2.1 8).1==3||(!Zk (Zd a.2.1 8).2 16||Zhx (Zd (Zd a.2.1 8).2 16).2))))
 let x34:= !x33
 let x35:=(Zd a.2.1 8).1==0||((Zd a.2.1 8).1==1||((Zd a.2.1 8).1==2||(!(Zd a.2.1 8).1==3||Zk (Zd a.2.1 8).2 16)))
 let x36:= !x35
 let x37:= !Zk (Zd (Zat (Zd a.2.1 8).2).2 64).2 4
 let x38:Int:=(Zd (Zd (Zat (Zd a.2.1 8).2).2 64).2 4).1
 let x39:=Ze x38 (Le [0,0,1,255])
 let x40:List Int:=a.2.2.1++[(Zat (Zd a.2.1 8).2).1,u8.wrap (Zd (Zat (Zd a.2.1 8).2).2 64).1,R.get Ka [0,0,1,255] x38]
 let x41:=(Zd a.2.1 8).1==0||((Zd a.2.1 8).1==1||((Zd a.2.1 8).1==2||((Zd a.2.1 8).1==3||(!Zcx (Zd a.2.1 8).2||(!Zk (Zat (Zd a.2.1 8).2).2 64||(x37||(!x39||Nat.ble (Le x40) most)))))))
 let x42:= !x41
 let x43:=(Zd a.2.1 8).1==0||((Zd a.2.1 8).1==1||((Zd a.2.1 8).1==2||((Zd a.2.1 8).1==3||(!Zcx (Zd a.2.1 8).2||(!Zk (Zat (Zd a.2.1 8).2).2 64||(x37||x39))))))
 let x44:= !x43
 let x45:=(Zd a.2.1 8).1==0||((Zd a.2.1 8).1==1||((Zd a.2.1 8).1==2||((Zd a.2.1 8).1==3||(!Zcx (Zd a.2.1 8).2||(!Zk (Zat (Zd a.2.1 8).2).2 64||Zk (Zd (Zat (Zd a.2.1 8).2).2 64).2 4)))))
 let x46:= !x45
 let x47:=(Zd a.2.1 8).1==0||((Zd a.2.1 8).1==1||((Zd a.2.1 8).1==2||((Zd a.2.1 8).1==3||(!Zcx (Zd a.2.1 8).2||Zk (Zat (Zd a.2.1 8).2).2 64))))
 let x48:=x10||(x12||(x14||(x16||(x18||(x20||(x23||(x25||(x27||(x29||(x32||(x34||(x36||(x42||(x44||(x46||(!x47||((Zd a.2.1 8).1==0||((Zd a.2.1 8).1==1||((Zd a.2.1 8).1==2||((Zd a.2.1 8).1==3||Zcx (Zd a.2.1 8).2))))))))))))))))))))
 let x49:= !x48
 let x50:=x10||(x12||(x14||(x16||(x18||(x20||(x23||(x25||(x27||(x29||(x32||(x34||(x36||(x42||(x44||(x46||x47)))))))))))))))
 let x51:= !x50
 let x52:=x10||(x12||(x14||(x16||(x18||(x20||(x23||(x25||(x27||(x29||(x32||(x34||(x36||(x42||(x44||x45))))))))))))))
 let x53:= !x52
 let x54:=x10||(x12||(x14||(x16||(x18||(x20||(x23||(x25||(x27||(x29||(x32||(x34||(x36||(x42||x43)))))))))))))
 let x55:= !x54
 let x56:=x10||(x12||(x14||(x16||(x18||(x20||(x23||(x25||(x27||(x29||(x32||(x34||(x36||x41))))))))))))
 let x57:= !x56
 let x58:=x10||(x12||(x14||(x16||(x18||(x20||(x23||(x25||(x27||(x29||(x32||(x34||x35)))))))))))
 let x59:= !x58
 let x60:=x10||(x12||(x14||(x16||(x18||(x20||(x23||(x25||(x27||(x29||(x32||x33))))))))))
 let x61:= !x60
 let x62:=x10||(x12||(x14||(x16||(x18||(x20||(x23||(x25||(x27||(x29||x31)))))))))
 let x63:= !x62
 let x64:=x10||(x12||(x14||(x16||(x18||(x20||(x23||(x25||(x27||x28))))))))
 let x65:= !x64
 let x66:=x10||(x12||(x14||(x16||(x18||(x20||(x23||(x25||x26)))))))
 let x67:= !x66
 let x68:=x10||(x12||(x14||(x16||(x18||(x20||(x23||x24))))))
 let x69:= !x68
 let x70:=x10||(x12||(x14||(x16||(x18||(x20||x22)))))
 let x71:= !x70
 let x72:=x10||(x12||(x14||(x16||(x18||x19))))
 let x73:= !x72
 let x74:=x10||(x12||(x14||(x16||x17)))
 let x75:= !x74
 let x76:=x10||(x12||(x14||x15))
 let x77:= !x76
 let x78:=x10||(x12||x13)
 let x79:= !x78
 let x80:=x10||x11
 let x81:List Int×Int:=(Zd (Zd (Zat (Zd a.2.1 8).2).2 64).2 4).2
 .br (decide (a.1>0)) (.br (!Zk a.2.1 8||(x49||(x51||(x53||(x55||(x57||(x59||(x61||(x63||(x65||(x67||(x69||(x71||(x73||(x75||(x77||(x79||(!x80||x9)))))))))))))))))) (.br (!Zk a.2.1 8||(x49||(x51||(x53||(x55||(x57||(x59||(x61||(x63||(x65||(x67||(x69||(x71||(x73||(x75||(x77||(x79||x80))))))))))))))))) (.br (!Zk a.2.1 8||(x49||(x51||(x53||(x55||(x57||(x59||(x61||(x63||(x65||(x67||(x69||(x71||(x73||(x75||(x77||x78)))))))))))))))) (.br (!Zk a.2.1 8||(x49||(x51||(x53||(x55||(x57||(x59||(x61||(x63||(x65||(x67||(x69||(x71||(x73||(x75||x76))))))))))))))) (.br (!Zk a.2.1 8||(x49||(x51||(x53||(x55||(x57||(x59||(x61||(x63||(x65||(x67||(x69||(x71||(x73||x74)))))))))))))) (.br (!Zk a.2.1 8||(x49||(x51||(x53||(x55||(x57||(x59||(x61||(x63||(x65||(x67||(x69||(x71||x72))))))))))))) (.br (!Zk a.2.1 8||(x49||(x51||(x53||(x55||(x57||(x59||(x61||(x63||(x65||(x67||(x69||x70)))))))))))) (.br (!Zk a.2.1 8||(x49||(x51||(x53||(x55||(x57||(x59||(x61||(x63||(x65||(x67||x68))))))))))) (.br (!Zk a.2.1 8||(x49||(x51||(x53||(x55||(x57||(x59||(x61||(x63||(x65||x66)))))))))) (.br (!Zk a.2.1 8||(x49||(x51||(x53||(x55||(x57||(x59||(x61||(x63||x64))))))))) (.br (!Zk a.2.1 8||(x49||(x51||(x53||(x55||(x57||(x59||(x61||x62)))))))) (.br (!Zk a.2.1 8||(x49||(x51||(x53||(x55||(x57||(x59||x60))))))) (.br (!Zk a.2.1 8||(x49||(x51||(x53||(x55||(x57||x58)))))) (.br (!Zk a.2.1 8||(x49||(x51||(x53||(x55||x56))))) (.br (!Zk a.2.1 8||(x49||(x51||(x53||x54)))) (.br (!Zk a.2.1 8||(x49||(x51||x52))) (.br (!Zk a.2.1 8||(x49||x50)) (.br (!Zk a.2.1 8||x48) (.br (Zk a.2.1 8) (.br ((Zd a.2.1 8).1==0) (Ls (Go1.cont (i64.wrap (a.1-1),x5.2,x8,PUnit.unit))) (.br ((Zd a.2.1 8).1==1) (Ls (Go1.cont (i64.wrap (a.1-1),(Zd (Zdo (Zd a.2.1 8).2).2 8).2,x21,PUnit.unit))) (.br ((Zd a.2.1 8).1==2) (Ls (Go1.cont (i64.wrap (a.1-1),(Zd a.2.1 8).2,a.2.2.1++[251],PUnit.unit))) (Ls (Go1.cont (i64.wrap (a.1-1),(bif (Zd a.2.1 8).1==3 then (Zdo (Zd (Zd a.2.1 8).2 16).2).2.1 else x81.1,bif (Zd a.2.1 8).1==3 then (Zdo (Zd (Zd a.2.1 8).2 16).2).2.2 else x81.2),bif (Zd a.2.1 8).1==3 then x30 else x40,PUnit.unit)))))) Ln) Ln) Ln) Ln) Ln) Ln) Ln) Ln) Ln) Ln) Ln) Ln) Ln) Ln) Ln) Ln) Ln) Ln) Ln) (Ls (Go1.brk (a.1,a.2.1,a.2.2.1,PUnit.unit)))
def Zq9:Ora:=ZaX false ZHK ZdD (λa=>400)
theorem ZyF:ZaF (envX prog [(68,Zdc),(71,ZCe),(119,Zib)] [] 9511883889056940159 8) (.block 0 (.loop (Z4 Tryz.f124.body 0))) Zq9:=
 loopP ⟨Zbj,Znp,ZfW,Tv⟩
def Zhv (s:List Int×Int) (n:Int):RT (Option (List Int×List Int×Int)):=
 let x1:QT28:=((Zd s (i64.wrap (n+1))).1,(Zd s (i64.wrap (n+1))).2,[],())
 let x2:=runF false ZdD (λa=>400) x1
 let x3:(List Int×Int)×List Int×PUnit:=(getO (false,x1) x2).2.2
 .br (Zk s (i64.wrap (n+1))) (.br (okB x2) (Ls ((x3.2.1,x3.1))) Ln) Ln
def Zcw (s:List Int×Int) (n:Int):List Int×List Int×Int:=getO (ZnN.Df,ZHM.Df) (Zhv s n).val
def Zhw (s:List Int×Int) (n:Int):Bool:=okB (Zhv s n).val
def Zra:En:=boxE ZHM ZBC ZnN (λa=>some (Zhw a.1 a.2)) (λa=>Zcw a.1 a.2)
theorem Zq8:Za prog 124 Zra:=
 ZcQ (P:=prog) (n:=9511883889056940159) (k:=8) (l:=[(68,Zdc),(71,ZCe),(119,Zib)]) (ol:=[(0,Zq9)]) ⟨Zbj,Znp,ZfW,Tv⟩ Tryz.func124 rfl (by kernel_rfl) Tryz.call124 ⟨ZyF,Tv⟩ (rb:=ZHM) (ts:=ZBC) (rs:=ZnN) (t:=λa=>Zhv a.1 a.2) (λa=>by kernel_rfl)
abbrev ZyI:Rs:=Rs.one (Sh.agg (R.Pq Kc (R.Pq rcRG (R.Pq Kc (R.Pq Ka (R.Pq Ka (R.Pq R.bool rcCE)))))))
def ZW4:LS:={n:=50,Sl:=[(0,.fix (A.loc 0 0)),(2,.fix (A.loc 1 0)),(3,.fix (A.loc 2 0)),(4,.tip 0),(5,.code (So Kc))],Bx:=[[.many (R.Pq (R.sl Kc) Kc)],[.many (R.Pq Kc (R.Pq rcRG (R.Pq Kc (R.Pq Ka (R.Pq Ka (R.Pq R.bool rcCE))))))],[.many (R.Pq Kc (R.Pq rcRG (R.Pq Kc (R.Pq Ka (R.Pq Ka (R.Pq R.bool rcCE))))))]],Sg:=[⟨R.Pq Kb Ka,75,true⟩]}
def ZfY (a:QT19):RT (Option (Go1 (QT19))):=
 let x1:=Ze (Zd a.2.1 6).1 (Le [36,60,52,44,56,32])
 let x2:= !x1
 let x3:List Int:=[(Zat (Zd a.2.1 6).2).1,251,201]
 let x4:=smB x3
 let x5:List (Int×Int):=a.2.2.2.2.1++Stg.l (newG Zc3 ZuU (Zss (u16.wrap (R.get Kc [36,60,52,44,56,32] (Zd a.2.1 6).1)) x3))
 let x6:= !Zk a.2.1 6||(x2||(!Zcx (Zd a.2.1 6).2||(!x4||Nat.ble (Le x5) most)))
 let x7:= !x6
 let x8:= !Zk a.2.1 6||(x2||(!Zcx (Zd a.2.1 6).2||x4))
 let x9:= !x8
 let x10:= !Zk a.2.1 6||(x2||Zcx (Zd a.2.1 6).2)
 let x11:= !x10
 let x12:= !Zk a.2.1 6||x1
 .br (decide (a.1>0)) (.br (x7||(x9||(x11||(!x12||Zk a.2.1 6)))) (.br (x7||(x9||(x11||x12))) (.br (x7||(x9||x10)) (.br (x7||x8) (.br (x6) (Ls (Go1.cont (i64.wrap (a.1-1),(Zat (Zd a.2.1 6).2).2,a.2.2.1,a.2.2.2.1,x5,PUnit.unit))) Ln) Ln) Ln) Ln) Ln) (Ls (Go1.brk (a.1,a.2.1,a.2.2.1,a.2.2.2.1,a.2.2.2.2.1,PUnit.unit)))
def ZCf:Ora:=ZaX false ZW4 ZfY (λa=>400)
theorem ZHT:ZaF (envX prog [(59,ZvY),(68,Zdc),(71,ZCe),(93,ZvM),(119,Zib),(122,ZW0),(123,Z6E),(124,Zra)] [] 63 8) (.block 0 (.loop (Z4 Tryz.f66.body 0))) ZCf:=
 loopP ⟨ZtE,Zbj,Znp,ZoJ,ZfW,ZLM,ZWS,Zq8,Tv⟩
def Zrl (s:List Int×Int):RT (Option (BRDT×List Int×Int)):=
 let x1:=(Zd (Zd (Zd (nMap (Za7 s).2).2 3).2 4).2 6).1==0
 let x2:= !x1
 let x3:List Int×Int:=(Zd (Zd (Zd (nMap (Za7 s).2).2 3).2 4).2 6).2
 let x4:=Zhx x3
 let x5:=Zdo x3
 let x6:=x5.2
 let x7:=Zdo x6
 let x8:=x7.2
 let x9:List Int×Int:=(bif x1 then x8.1 else x3.1,bif x1 then x8.2 else x3.2)
 let x10:=Zhw x9 12
 let x11:=Zcw x9 12
 let x12:=x11.1
 let x13:=x11.2
 let x14:=Zd x13 4
 let x15:QT19:=(x14.1,x14.2,(0,[],0,0,0,false,[]),((Za7 s).1,(nMap (Za7 s).2).1,(Zd (nMap (Za7 s).2).2 3).1,bif x1 then x5.1 else 0,bif x1 then x7.1 else 4,(Zd (Zd (nMap (Za7 s).2).2 3).2 4).1==0,[]),Stg.l (newG Zc3 ZuU (Zss 0 x12)),())
 let x16:=runF false ZfY (λa=>400) x15
 let x17:(List Int×Int)×BRDT×BRDT×List (Int×Int)×PUnit:=(getO (false,x15) x16).2.2
 let x18:=x17.2.2
 let x19:=x18.2.1
 let x20:=x18.1
 let x21:=x20.2
 let x22:=x21.2
 let x23:=x22.2
 let x24:=x23.2
 .br (!Zrj s||(!ZPP (Za7 s).2||(!Zk (nMap (Za7 s).2).2 3||Zk (Zd (nMap (Za7 s).2).2 3).2 4))) (.br (!Zrj s||(!ZPP (Za7 s).2||Zk (nMap (Za7 s).2).2 3)) (.br (!Zrj s||ZPP (Za7 s).2) (.br (Zrj s) (.br (Zk (Zd (Zd (nMap (Za7 s).2).2 3).2 4).2 6) (.br (x2||(!x4||Zhx x6)) (.br (x2||x4) (.br (!x10||smB x12) (.br (x10) (.br (Zk x13 4) (.br (okB x16) (.br (smC x19) (Ls (((x20.1,x21.1,x22.1,x23.1,x24.1,x24.2.1,Cells.normX x19),x17.1))) Ln) Ln) Ln) Ln) Ln) Ln) Ln) Ln) Ln) Ln) Ln) Ln
def Zdd (s:List Int×Int):BRDT×List Int×Int:=getO (ZyI.Df,ZHM.Df) (Zrl s).val
def Zrm (s:List Int×Int):Bool:=okB (Zrl s).val
def ZW5:En:=boxE ZHM ZBh ZyI (λa=>some (Zrm a.1)) (λa=>Zdd a.1)
theorem ZW2:Za prog 66 ZW5:=
 ZcQ (P:=prog) (n:=63) (k:=8) (l:=[(59,ZvY),(68,Zdc),(71,ZCe),(93,ZvM),(119,Zib),(122,ZW0),(123,Z6E),(124,Zra)]) (ol:=[(0,ZCf)]) ⟨ZtE,Zbj,Znp,ZoJ,ZfW,ZLM,ZWS,Zq8,Tv⟩ Tryz.func66 rfl (by kernel_rfl) Tryz.call66 ⟨ZHT,Tv⟩ (rb:=ZHM) (ts:=ZBh) (rs:=ZyI) (t:=λa=>Zrl a.1) (λa=>by kernel_rfl)
def Zrh (s:List Int×Int):RT (Option (INPT×List Int×Int)):=
 let x1:=decide ((Zd s 64).1<30)||(decide ((Zd s 64).1<36)||(decide ((Zd s 64).1<40)||(!decide ((Zd s 64).1<46)||Zk (Zd s 64).2 256)))
 let x2:= !x1
 let x3:=decide ((Zd s 64).1<30)||(decide ((Zd s 64).1<36)||(decide ((Zd s 64).1<40)||(decide ((Zd s 64).1<46)||(decide ((Zd s 64).1<50)||(decide ((Zd s 64).1<53)||(decide ((Zd s 64).1<55)||((Zd s 64).1==55||(!decide ((Zd s 64).1<60)||Zcx (Zd s 64).2))))))))
 let x4:= !x3
 let x5:= !ZbC (Zap (Zap (Zap (Zap (Zd s 64).2).2).2).2).2
 let x6:List Int×Int:=(Zap (Zap (Zap (Zap (Zap (Zd s 64).2).2).2).2).2).2
 let x7:=Zk x6 256
 let x8:=Zd x6 256
 let x9:=x8.2
 let x10:=decide ((Zd s 64).1<30)||(decide ((Zd s 64).1<36)||(decide ((Zd s 64).1<40)||(decide ((Zd s 64).1<46)||(decide ((Zd s 64).1<50)||(decide ((Zd s 64).1<53)||(decide ((Zd s 64).1<55)||((Zd s 64).1==55||(decide ((Zd s 64).1<60)||(!ZbC (Zd s 64).2||(!ZbC (Zap (Zd s 64).2).2||(!ZbC (Zap (Zap (Zd s 64).2).2).2||(!ZbC (Zap (Zap (Zap (Zd s 64).2).2).2).2||(x5||(!x7||Zk x9 256))))))))))))))
 let x11:= !x10
 let x12:=decide ((Zd s 64).1<30)||(decide ((Zd s 64).1<36)||(decide ((Zd s 64).1<40)||(decide ((Zd s 64).1<46)||(decide ((Zd s 64).1<50)||(decide ((Zd s 64).1<53)||(decide ((Zd s 64).1<55)||((Zd s 64).1==55||(decide ((Zd s 64).1<60)||(!ZbC (Zd s 64).2||(!ZbC (Zap (Zd s 64).2).2||(!ZbC (Zap (Zap (Zd s 64).2).2).2||(!ZbC (Zap (Zap (Zap (Zd s 64).2).2).2).2||(x5||x7)))))))))))))
 let x13:= !x12
 let x14:=decide ((Zd s 64).1<30)||(decide ((Zd s 64).1<36)||(decide ((Zd s 64).1<40)||(decide ((Zd s 64).1<46)||(decide ((Zd s 64).1<50)||(decide ((Zd s 64).1<53)||(decide ((Zd s 64).1<55)||((Zd s 64).1==55||(decide ((Zd s 64).1<60)||(!ZbC (Zd s 64).2||(!ZbC (Zap (Zd s 64).2).2||(!ZbC (Zap (Zap (Zd s 64).2).2).2||(!ZbC (Zap (Zap (Zap (Zd s 64).2).2).2).2||ZbC (Zap (Zap (Zap (Zap (Zd s 64).2).2).2).2).2))))))))))))
 let x15:= !x14
 let x16:=decide ((Zd s 64).1<30)||(decide ((Zd s 64).1<36)||(decide ((Zd s 64).1<40)||(decide ((Zd s 64).1<46)||(decide ((Zd s 64).1<50)||(decide ((Zd s 64).1<53)||(decide ((Zd s 64).1<55)||((Zd s 64).1==55||(decide ((Zd s 64).1<60)||(!ZbC (Zd s 64).2||(!ZbC (Zap (Zd s 64).2).2||(!ZbC (Zap (Zap (Zd s 64).2).2).2||ZbC (Zap (Zap (Zap (Zd s 64).2).2).2).2)))))))))))
 let x17:= !x16
 let x18:=decide ((Zd s 64).1<30)||(decide ((Zd s 64).1<36)||(decide ((Zd s 64).1<40)||(decide ((Zd s 64).1<46)||(decide ((Zd s 64).1<50)||(decide ((Zd s 64).1<53)||(decide ((Zd s 64).1<55)||((Zd s 64).1==55||(decide ((Zd s 64).1<60)||(!ZbC (Zd s 64).2||(!ZbC (Zap (Zd s 64).2).2||ZbC (Zap (Zap (Zd s 64).2).2).2))))))))))
 let x19:= !x18
 let x20:=decide ((Zd s 64).1<30)||(decide ((Zd s 64).1<36)||(decide ((Zd s 64).1<40)||(decide ((Zd s 64).1<46)||(decide ((Zd s 64).1<50)||(decide ((Zd s 64).1<53)||(decide ((Zd s 64).1<55)||((Zd s 64).1==55||(decide ((Zd s 64).1<60)||(!ZbC (Zd s 64).2||ZbC (Zap (Zd s 64).2).2)))))))))
 let x21:=Zd x9 256
 let x22:=x21.2
 .br (Zk s 64) (.br (x2||(x4||(x11||(x13||(x15||(x17||(x19||(!x20||(decide ((Zd s 64).1<30)||(decide ((Zd s 64).1<36)||(decide ((Zd s 64).1<40)||(decide ((Zd s 64).1<46)||(decide ((Zd s 64).1<50)||(decide ((Zd s 64).1<53)||(decide ((Zd s 64).1<55)||((Zd s 64).1==55||(decide ((Zd s 64).1<60)||ZbC (Zd s 64).2))))))))))))))))) (.br (x2||(x4||(x11||(x13||(x15||(x17||(x19||x20))))))) (.br (x2||(x4||(x11||(x13||(x15||(x17||x18)))))) (.br (x2||(x4||(x11||(x13||(x15||x16))))) (.br (x2||(x4||(x11||(x13||x14)))) (.br (x2||(x4||(x11||x12))) (.br (x2||(x4||x10)) (.br (x2||x3) (.br (x1) (Ls (((bif decide ((Zd s 64).1<30) then ZU.1 else !decide ((Zd s 64).1<36)&&bif decide ((Zd s 64).1<40) then ZU.1 else bif decide ((Zd s 64).1<46) then ZU.1 else bif decide ((Zd s 64).1<50) then ZU.1 else bif decide ((Zd s 64).1<53) then ZU.1 else bif decide ((Zd s 64).1<55) then ZU.1 else bif (Zd s 64).1==55 then ZU.1 else bif decide ((Zd s 64).1<60) then ZU.1 else (Zap (Zd s 64).2).1,bif decide ((Zd s 64).1<30) then ZU.2.1 else bif decide ((Zd s 64).1<36) then ZU.2.1 else decide ((Zd s 64).1<40)||bif decide ((Zd s 64).1<46) then ZU.2.1 else bif decide ((Zd s 64).1<50) then ZU.2.1 else bif decide ((Zd s 64).1<53) then ZU.2.1 else bif decide ((Zd s 64).1<55) then ZU.2.1 else bif (Zd s 64).1==55 then ZU.2.1 else bif decide ((Zd s 64).1<60) then ZU.2.1 else (Zap (Zap (Zd s 64).2).2).1,bif decide ((Zd s 64).1<30) then ZU.2.2.1 else bif decide ((Zd s 64).1<36) then ZU.2.2.1 else bif decide ((Zd s 64).1<40) then ZU.2.2.1 else bif decide ((Zd s 64).1<46) then ZU.2.2.1 else bif decide ((Zd s 64).1<50) then ZU.2.2.1 else bif decide ((Zd s 64).1<53) then ZU.2.2.1 else bif decide ((Zd s 64).1<55) then ZU.2.2.1 else (Zd s 64).1==55||decide ((Zd s 64).1<60)&&ZU.2.2.1,bif decide ((Zd s 64).1<30) then ZU.2.2.2.1 else bif decide ((Zd s 64).1<36) then ZU.2.2.2.1 else bif decide ((Zd s 64).1<40) then ZU.2.2.2.1 else bif decide ((Zd s 64).1<46) then ZU.2.2.2.1 else bif decide ((Zd s 64).1<50) then ZU.2.2.2.1 else bif decide ((Zd s 64).1<53) then (Zd s 64).1==51 else bif decide ((Zd s 64).1<55) then ZU.2.2.2.1 else bif (Zd s 64).1==55 then ZU.2.2.2.1 else bif decide ((Zd s 64).1<60) then ZU.2.2.2.1 else (Zap (Zap (Zap (Zd s 64).2).2).2).1,bif decide ((Zd s 64).1<30) then ZU.2.2.2.2.1 else bif decide ((Zd s 64).1<36) then ZU.2.2.2.2.1 else bif decide ((Zd s 64).1<40) then ZU.2.2.2.2.1 else bif decide ((Zd s 64).1<46) then ZU.2.2.2.2.1 else bif decide ((Zd s 64).1<50) then ZU.2.2.2.2.1 else bif decide ((Zd s 64).1<53) then ZU.2.2.2.2.1 else decide ((Zd s 64).1<55)||bif (Zd s 64).1==55 then ZU.2.2.2.2.1 else decide ((Zd s 64).1<60)&&ZU.2.2.2.2.1,bif decide ((Zd s 64).1<30) then ZU.2.2.2.2.2.1 else bif decide ((Zd s 64).1<36) then ZU.2.2.2.2.2.1 else bif decide ((Zd s 64).1<40) then ZU.2.2.2.2.2.1 else bif decide ((Zd s 64).1<46) then ZU.2.2.2.2.2.1 else bif decide ((Zd s 64).1<50) then Int.tmod (Zd s 64).1 2==0 else bif decide ((Zd s 64).1<53) then ZU.2.2.2.2.2.1 else bif decide ((Zd s 64).1<55) then ZU.2.2.2.2.2.1 else bif (Zd s 64).1==55 then ZU.2.2.2.2.2.1 else bif decide ((Zd s 64).1<60) then ZU.2.2.2.2.2.1 else (Zap (Zap (Zap (Zap (Zd s 64).2).2).2).2).1,bif decide ((Zd s 64).1<30) then ZU.2.2.2.2.2.2.1 else bif decide ((Zd s 64).1<36) then ZU.2.2.2.2.2.2.1 else bif decide ((Zd s 64).1<40) then ZU.2.2.2.2.2.2.1 else bif decide ((Zd s 64).1<46) then ZU.2.2.2.2.2.2.1 else bif decide ((Zd s 64).1<50) then Int.tmod (Zd s 64).1 2==1 else bif decide ((Zd s 64).1<53) then ZU.2.2.2.2.2.2.1 else bif decide ((Zd s 64).1<55) then ZU.2.2.2.2.2.2.1 else bif (Zd s 64).1==55 then ZU.2.2.2.2.2.2.1 else bif decide ((Zd s 64).1<60) then ZU.2.2.2.2.2.2.1 else (Zap (Zap (Zap (Zap (Zap (Zd s 64).2).2).2).2).2).1,bif decide ((Zd s 64).1<30) then ZU.2.2.2.2.2.2.2.1 else bif decide ((Zd s 64).1<36) then ZU.2.2.2.2.2.2.2.1 else bif decide ((Zd s 64).1<40) then ZU.2.2.2.2.2.2.2.1 else bif decide ((Zd s 64).1<46) then ZU.2.2.2.2.2.2.2.1 else bif decide ((Zd s 64).1<50) then ZU.2.2.2.2.2.2.2.1 else decide ((Zd s 64).1<53)||bif decide ((Zd s 64).1<55) then ZU.2.2.2.2.2.2.2.1 else bif (Zd s 64).1==55 then ZU.2.2.2.2.2.2.2.1 else decide ((Zd s 64).1<60)&&ZU.2.2.2.2.2.2.2.1,bif decide ((Zd s 64).1<30) then ZU.2.2.2.2.2.2.2.2.1 else bif decide ((Zd s 64).1<36) then ZU.2.2.2.2.2.2.2.2.1 else bif decide ((Zd s 64).1<40) then ZU.2.2.2.2.2.2.2.2.1 else bif decide ((Zd s 64).1<46) then u8.wrap (Zd (Zd s 64).2 256).1 else bif decide ((Zd s 64).1<50) then ZU.2.2.2.2.2.2.2.2.1 else bif decide ((Zd s 64).1<53) then ZU.2.2.2.2.2.2.2.2.1 else bif decide ((Zd s 64).1<55) then ZU.2.2.2.2.2.2.2.2.1 else bif (Zd s 64).1==55 then ZU.2.2.2.2.2.2.2.2.1 else bif decide ((Zd s 64).1<60) then 1 else u8.wrap x8.1,bif decide ((Zd s 64).1<30) then u8.wrap (Zd s 64).1 else bif decide ((Zd s 64).1<36) then ZU.2.2.2.2.2.2.2.2.2 else bif decide ((Zd s 64).1<40) then ZU.2.2.2.2.2.2.2.2.2 else bif decide ((Zd s 64).1<46) then ZU.2.2.2.2.2.2.2.2.2 else bif decide ((Zd s 64).1<50) then ZU.2.2.2.2.2.2.2.2.2 else bif decide ((Zd s 64).1<53) then ZU.2.2.2.2.2.2.2.2.2 else bif decide ((Zd s 64).1<55) then ZU.2.2.2.2.2.2.2.2.2 else bif (Zd s 64).1==55 then ZU.2.2.2.2.2.2.2.2.2 else bif decide ((Zd s 64).1<60) then (Zat (Zd s 64).2).1 else u8.wrap x21.1),bif decide ((Zd s 64).1<30) then (Zd s 64).2.1 else bif decide ((Zd s 64).1<36) then (Zd s 64).2.1 else bif decide ((Zd s 64).1<40) then (Zd s 64).2.1 else bif decide ((Zd s 64).1<46) then (Zd (Zd s 64).2 256).2.1 else bif decide ((Zd s 64).1<50) then (Zd s 64).2.1 else bif decide ((Zd s 64).1<53) then (Zd s 64).2.1 else bif decide ((Zd s 64).1<55) then (Zd s 64).2.1 else bif (Zd s 64).1==55 then (Zd s 64).2.1 else bif decide ((Zd s 64).1<60) then (Zat (Zd s 64).2).2.1 else x22.1,bif decide ((Zd s 64).1<30) then (Zd s 64).2.2 else bif decide ((Zd s 64).1<36) then (Zd s 64).2.2 else bif decide ((Zd s 64).1<40) then (Zd s 64).2.2 else bif decide ((Zd s 64).1<46) then (Zd (Zd s 64).2 256).2.2 else bif decide ((Zd s 64).1<50) then (Zd s 64).2.2 else bif decide ((Zd s 64).1<53) then (Zd s 64).2.2 else bif decide ((Zd s 64).1<55) then (Zd s 64).2.2 else bif (Zd s 64).1==55 then (Zd s 64).2.2 else bif decide ((Zd s 64).1<60) then (Zat (Zd s 64).2).2.2 else x22.2))) Ln) Ln) Ln) Ln) Ln) Ln) Ln) Ln) Ln) Ln
def Zec (s:List Int×Int):INPT×List Int×Int:=getO (ZQS.Df,ZHM.Df) (Zrh s).val
def Zi0 (s:List Int×Int):Bool:=okB (Zrh s).val
def Zri:En:=boxE ZHM ZBh ZQS (λa=>some (Zi0 a.1)) (λa=>Zec a.1)
theorem Zrg:Za prog 62 Zri:=
 ZcQ (P:=prog) (n:=5036105318265824215071) (k:=8) (l:=[(68,Zdc),(69,Z3J),(118,ZIJ),(119,Zib)]) (ol:=[]) ⟨Zbj,Z1b,ZuC,ZfW,Tv⟩ Tryz.func62 rfl (by kernel_rfl) Tryz.call62 trivial (rb:=ZHM) (ts:=ZBh) (rs:=ZQS) (t:=λa=>Zrh a.1) (λa=>by kernel_rfl)
def ZPT:LS:={n:=39,Sl:=[(0,.fix (A.loc 0 0)),(5,.tip 0),(6,.code (So Kc)),(7,.fix (A.loc 1 0)),(8,.code (So Kc))],Bx:=[[.many (R.Pq (R.sl Kc) Kc)],[.many Zb7]],Sg:=[⟨Zb7,122,true⟩]}
def Zeu (a:QT18):RT (Option (Go1 (QT18))):=
 let x1:List INPT:=a.2.2.2.2.1++[a.2.2.2.1]
 .br (decide (a.2.1>=0)&&decide (iN (Le a.2.2.2.2.1)<a.1)) (.br (Nat.ble (Le x1) most) (Ls (Go1.cont (a.1,i64.wrap (a.2.1-1),a.2.2.1,a.2.2.2.1,x1,PUnit.unit))) Ln) (Ls (Go1.brk (a.1,a.2.1,a.2.2.1,a.2.2.2.1,a.2.2.2.2.1,PUnit.unit)))
def Zic:Ora:=ZaX false ZPT Zeu (λa=>400)
theorem Zmh:ZaF (envX prog [(62,Zri),(68,Zdc)] [] 511 8) (.block 2 (.loop (Z4 Tryz.f125.body 2))) Zic:=
 loopP ⟨Zrg,Zbj,Tv⟩
def ZPS:LS:={n:=39,Sl:=[(0,.fix (A.loc 0 0)),(5,.tip 0),(6,.code (So Kc))],Bx:=[[.many (R.Pq (R.sl Kc) Kc)]],Sg:=[⟨Zb7,122,true⟩]}
def ZfX (a:QT27):RT (Option (Go1 (QT27))):=
 let x1:= !Zk (Zec a.2.1).2 4||Zk (Zd (Zec a.2.1).2 4).2 5
 let x2:= !x1
 let x3:QT18:=(a.1,i64.wrap ((Zd (Zec a.2.1).2 4).1*(Zd (Zd (Zec a.2.1).2 4).2 5).1),(Zd (Zd (Zec a.2.1).2 4).2 5).2,(Zec a.2.1).1,a.2.2.1,())
 let x4:=runF false Zeu (λa_1=>400) x3
 let x5:QT18:=(getO (false,x3) x4).2
 let x6:=x5.2.2
 .br (decide (iN (Le a.2.2.1)<a.1)) (.br (!Zi0 a.2.1||(x2||(!Zk (Zec a.2.1).2 4||okB x4))) (.br (!Zi0 a.2.1||(x2||Zk (Zec a.2.1).2 4)) (.br (!Zi0 a.2.1||x1) (.br (Zi0 a.2.1) (Ls (Go1.cont (x5.1,x6.1,x6.2.2.1,PUnit.unit))) Ln) Ln) Ln) Ln) (Ls (Go1.brk (a.1,a.2.1,a.2.2.1,PUnit.unit)))
def Zt8:Ora:=ZaX false ZPS ZfX (λa=>400)
theorem ZCc:ZaF (envX prog [(62,Zri),(68,Zdc)] [(2,Zic)] 511 8) (.block 0 (.loop (Z4 Tryz.f125.body 0))) Zt8:=
 Zkh (Zb0 (l:=[(62,Zri),(68,Zdc)]) ⟨Zrg,Zbj,Tv⟩ [(2,Zic)] 511 8) (Zi2 (by kernel_rfl) (by kernel_rfl) ⟨Zmh,Tv⟩) (λa=>by kernel_rfl)
def Zka (s:List Int×Int) (n:Int):RT (Option (List INPT×List Int×Int)):=
 let x1:QT27:=((Zd s (i64.wrap (n+1))).1,(Zd s (i64.wrap (n+1))).2,[],())
 let x2:=runF false ZfX (λa=>400) x1
 let x3:(List Int×Int)×List INPT×PUnit:=(getO (false,x1) x2).2.2
 .br (Zk s (i64.wrap (n+1))) (.br (okB x2) (Ls ((x3.2.1,x3.1))) Ln) Ln
def Zaj (s:List Int×Int) (n:Int):List INPT×List Int×Int:=getO (ZnP.Df,ZHM.Df) (Zka s n).val
def Zkb (s:List Int×Int) (n:Int):Bool:=okB (Zka s n).val
def ZLJ:En:=boxE ZHM ZBC ZnP (λa=>some (Zkb a.1 a.2)) (λa=>Zaj a.1 a.2)
theorem ZPQ:Za prog 125 ZLJ:=
 ZcQ (P:=prog) (n:=511) (k:=8) (l:=[(62,Zri),(68,Zdc)]) (ol:=[(2,Zic),(0,Zt8)]) ⟨Zrg,Zbj,Tv⟩ Tryz.func125 rfl (by kernel_rfl) Tryz.call125 ⟨Zmh,ZCc,Tv⟩ (rb:=ZHM) (ts:=ZBC) (rs:=ZnP) (t:=λa=>Zka a.1 a.2) (λa=>by kernel_rfl)
variable {s:List Int×Int} {k:Int}
theorem NB.up {j:Int} (h:NB s k) (hj:k<=j):NB s j:=⟨h.1,by have:=h.2;omega⟩
theorem Zkc (h:NB s k) (hk:k<=1000000):ZbC s=true/\NB (Zap s).2 (k+1):=by obtain⟨c1,b,_⟩:=ZE h hk 2 (by decide) (by decide);simp only[ZbC,Zap,ZLL,RT.val,c1,Ya,okB,getO];exact⟨trivial,b⟩
theorem Zai {a b:Nat} (h:a<=b):Nat.ble a b=true:=by rw[YF];exact h
theorem ZHH (h:NB s k) (hk:k<=500000) (n:Nat) (hn:n<=100):
  Zd0 s (n:Int)=true/\NB (Zbx s (n:Int)).2 (k+1+5*n)/\(Zbx s (n:Int)).1.length<=n:=by
 have hms:=mst;have w0:IntKind.wrap .i64 ((n:Int)+1)=(n:Int)+1:=wrap_i64 _ (by omega) (by omega);obtain⟨c1,b1,d0,d1⟩:=ZE h (by omega) ((n:Int)+1) (by omega) (by omega);obtain⟨L,N,hs1⟩:∃L N,(L,N)=(Zd s ((n:Int)+1)).2:=⟨_,_,rfl⟩;obtain⟨q,hq⟩:∃q:Nat,(Zd s ((n:Int)+1)).1=(q:Int):=⟨_,(Yau d0).symm⟩;rw[<-hs1] at b1;obtain⟨r,hr,h1,L',N',o,hs',ho,hR⟩:=ZM (fl:=false) (t:=ZeP) (fuel:=λa=>400)
  (λa=>∃(i:Nat) (L:List Int) (N:Int) (o:List Z9),i<=q/\NB (L,N) (k+1+5*((q-i:Nat):Int))/\o.length<=q-i/\a=((i:Int),(L,N),o,()))
  (λa=>Int.toNat a.1) (λr=>r.1=false/\∃(L:List Int) (N:Int) (o:List Z9),NB (L,N) (k+1+5*(q:Int))/\o.length<=q/\r.2=((0:Int),(L,N),o,()))
  (by
   rintro a ⟨i,L,N,o,hi,hs',ho,rfl⟩;cases i with
   |zero=>
    right;left;exact⟨_,by simp only[ZeP,RT.val];rfl,rfl,L,N,o,by simpa using hs',by omega,rfl⟩
   |succ i=>
    left;have d:decide (((i+1:Nat):Int)>0)=true:=YA (by omega);obtain⟨kw,bw,_⟩:=Z1a hs' (by omega);obtain⟨k1,b1,e0,e1⟩:=ZE bw (by omega) 6 (by decide) (by decide);obtain⟨k2,b2,_⟩:=ZE b1 (by omega) 3 (by decide) (by decide);obtain⟨k3,b3,f0,f1⟩:=ZE b2 (by omega) 5 (by decide) (by decide);have r1:Ze (Zd (Zb8 (L,N)).2 6).1 6=true:=ZF.2 ⟨e0,e1⟩;have r2:Ze (Zd (Zd (Zd (Zb8 (L,N)).2 6).2 3).2 5).1 5=true:=ZF.2 ⟨f0,f1⟩;have hb:∀x:Z9,Nat.ble (o++[x]).length most=true:=λx=>Zai (by simp;omega)
    have w:IntKind.wrap .i64 (((i+1:Nat):Int)-1)=(i:Int):=by rw[wrap_i64 _ (by omega) (by omega)];omega
    obtain⟨o',ho'⟩:∃o':List Z9,o'=o++[((Zb8 (L,N)).1,u16.wrap (if 65535<i64.wrap (i64.wrap (Zb8 (L,N)).1+R.get (R.int i64) [0,3,15,255,4095,65535] (Zd (Zb8 (L,N)).2 6).1) then 65535 else i64.wrap (i64.wrap (Zb8 (L,N)).1+R.get (R.int i64) [0,3,15,255,4095,65535] (Zd (Zb8 (L,N)).2 6).1)),decide ((Zd (Zd (Zb8 (L,N)).2 6).2 3).1>0),R.get (R.int i64) [0,0,1,2,5] (Zd (Zd (Zd (Zb8 (L,N)).2 6).2 3).2 5).1)]:=⟨_,rfl⟩;refine⟨((i:Int),((Zd (Zd (Zd (Zb8 (L,N)).2 6).2 3).2 5).2.1,(Zd (Zd (Zd (Zb8 (L,N)).2 6).2 3).2 5).2.2),o',()),?_,⟨i,_,_,o',by omega,b3.up (by omega),by rw[ho'];simp;omega,rfl⟩,by simp only;omega⟩
    simp only[ZeP,RT.val,List.length_cons,List.length_nil,Nat.reduceAdd,d,kw,k1,k2,k3,r1,r2,hb,w,ho',Ya,Ye,Yi,Yh,Yu])
  ((q:Int),(L,N),[],()) ⟨q,L,N,[],Yg _,by simpa using b1,by simp,rfl⟩ (by simp only;omega)
 obtain⟨r1,r2⟩:=r;simp only at h1 hR;subst h1 hR;have hv:(Zhu s (n:Int)).val=some (o,L',N'):=by simp only[Zhu,RT.val,w0,c1,hq,<-hs1,hr,okB,getO,Ya]
 simp only[Zd0,Zbx,hv,okB,getO];exact⟨trivial,hs'.up (by omega),by omega⟩
theorem Z7I {l:List Cell} (h:l.length<=1000):smC l=true:=Zai (by have:=mst;omega)
theorem Z2x {l:List Int} (h:l.length<=1000):smB l=true:=Zai (by have:=mst;omega)
theorem ZWT (h:NB s k) (hk:k<=400000):ZPP s=true/\NB (nMap s).2 (k+20)/\(nMap s).1.length<=3:=by
 obtain⟨c1,b1,l1⟩:=ZHH h (by omega) 2 (by omega);have c1:Zd0 s 2=true:=c1;have b1:NB (Zbx s 2).2 (k+1+5*((2:Nat):Int)):=b1;have l1:(Zbx s 2).1.length<=2:=l1;obtain⟨c2,b2,_⟩:=ZE b1 (by omega) 3 (by decide) (by decide);have hs:∀x:Z9,Nat.ble ((Zbx s 2).1++[x]).length most=true:=λx=>Zai (by have:=mst;simp;omega)
 have hg:∀l:List Z9,Stg.l (newG ZfU ZfV l)=l:=λ_=>rfl
 have hv:(ZWU s).val=some ((Zbx s 2).1++[(0,65535,true,IntKind.wrap .i64 (Int.tdiv (Zd (Zbx s 2).2 3).1 2))],(Zd (Zbx s 2).2 3).2):=by simp only[ZWU,RT.val,hg,c1,c2,hs,Ye,Yi,Yh,Ya]
 refine⟨by simp only[ZPP,hv];rfl,?_,?_⟩
 ·simp only[nMap,hv,getO];exact b2.up (by omega)
 ·simp only[nMap,hv,getO];simp;omega
theorem ZHJ (h:NB s k) (hk:k<=300000) (n:Nat) (hn:n<=20):
  Zhw s (n:Int)=true/\NB (Zcw s (n:Int)).2 (k+1+10*n)/\(Zcw s (n:Int)).1.length<=12*n:=by
 have hms:=mst;have w0:IntKind.wrap .i64 ((n:Int)+1)=(n:Int)+1:=wrap_i64 _ (by omega) (by omega);obtain⟨c1,b1,d0,d1⟩:=ZE h (by omega) ((n:Int)+1) (by omega) (by omega);obtain⟨s1,hs1⟩:∃s1,s1=(Zd s ((n:Int)+1)).2:=⟨_,rfl⟩;obtain⟨q,hq⟩:∃q:Nat,(Zd s ((n:Int)+1)).1=(q:Int):=⟨_,(Yau d0).symm⟩;rw[<-hs1] at b1;obtain⟨r,hr,h1,s',o,hs',ho,hR⟩:=ZM (fl:=false) (t:=ZdD) (fuel:=λa=>400)
  (λa=>∃(i:Nat) (s':List Int×Int) (o:List Int),i<=q/\NB s' (k+1+10*((q-i:Nat):Int))/\o.length<=12*(q-i)/\a=((i:Int),s',o,()))
  (λa=>Int.toNat a.1) (λr=>r.1=false/\∃(s':List Int×Int) (o:List Int),NB s' (k+1+10*(q:Int))/\o.length<=12*q/\r.2=((0:Int),s',o,()))
  (by
   rintro a ⟨i,s',o,hi,hs',ho,rfl⟩;cases i with
   |zero=>
    right;left;exact⟨_,by simp only[ZdD,RT.val];rfl,rfl,s',o,by simpa using hs',by omega,rfl⟩
   |succ i=>
    left;have d:decide (((i+1:Nat):Int)>0)=true:=YA (by omega);have w:IntKind.wrap .i64 (((i+1:Nat):Int)-1)=(i:Int):=by rw[wrap_i64 _ (by omega) (by omega)];omega
    obtain⟨k0,b0,_⟩:=ZE hs' (by omega) 8 (by decide) (by decide);obtain⟨k1,b1,e0,e1⟩:=ZE b0 (by omega) 4 (by decide) (by decide);obtain⟨k2,b2,_⟩:=ZE b1 (by omega) 256 (by decide) (by decide);obtain⟨k3,b3,f0,f1⟩:=ZE b2 (by omega) 4 (by decide) (by decide);obtain⟨k4,b4,_⟩:=Znq b0 (by omega);obtain⟨k5,b5,_⟩:=ZE b4 (by omega) 8 (by decide) (by decide);obtain⟨k6,b6,_⟩:=ZE b0 (by omega) 16 (by decide) (by decide);obtain⟨k7,b7,_⟩:=Znq b6 (by omega);obtain⟨k8,b8,_⟩:=Zly b0 (by omega);obtain⟨k9,b9,_⟩:=ZE b8 (by omega) 64 (by decide) (by decide);obtain⟨ka,ba,g0,g1⟩:=ZE b9 (by omega) 4 (by decide) (by decide);have r1:Ze (Zd (Zd s' 8).2 4).1 4=true:=ZF.2 ⟨e0,e1⟩;have r2:Ze (Zd (Zd (Zd (Zd s' 8).2 4).2 256).2 4).1 4=true:=ZF.2 ⟨f0,f1⟩;have r3:Ze (Zd (Zd (Zat (Zd s' 8).2).2 64).2 4).1 4=true:=ZF.2 ⟨g0,g1⟩;have hb:∀x:List Int,x.length<=12->Nat.ble (o++x).length most=true:=λx hx=>Zai (by rw[Yd];omega)
    have q1:∀a b c:Int,Nat.ble (o++[a,b,c]).length most=true:=λa b c=>hb _ (by simp)
    have q2:∀a b c d:Int,Nat.ble (o++[a,b,c,d]).length most=true:=λa b c d=>hb _ (by simp)
    have q3:∀a:Int,Nat.ble (o++[a]).length most=true:=λa=>hb _ (by simp)
    have q4:∀a b c d e f g h i j k l:Int,Nat.ble (o++[a,b,c,d,e,f,g,h,i,j,k,l]).length most=true:=λa b c d e f g h i j k l=>hb _ (by simp)
    have hv:∃s2 x,x.length<=12/\NB s2 (k+1+10*((q-i:Nat):Int))/\(ZdD (((i+1:Nat):Int),s',o,())).val=some (Go1.cont ((i:Int),s2,o++x,())):=by
     simp only[ZdD,RT.val,List.length_cons,List.length_nil,Nat.reduceAdd,d,w,k0,k1,k2,k3,k4,k5,k6,k7,k8,k9,ka,r1,r2,r3,q1,q2,q3,q4,Ya,Ye,Yi,Yh,Yu];cases (Zd s' 8).1==0
     ·cases (Zd s' 8).1==1
      ·cases (Zd s' 8).1==2
       ·cases (Zd s' 8).1==3
        ·exact⟨_,[(Zat (Zd s' 8).2).1,IntKind.wrap .u8 (Zd (Zat (Zd s' 8).2).2 64).1,R.get (R.int .u8) [0,0,1,255] (Zd (Zd (Zat (Zd s' 8).2).2 64).2 4).1],by simp,ba.up (by omega),rfl⟩
        ·exact⟨_,[62,IntKind.wrap .u8 (IntKind.wrap .i64 (16+(Zd (Zd s' 8).2 16).1)),211,0,62,(Zdo (Zd (Zd s' 8).2 16).2).1,211,1,62,0,211,1],by simp,b7.up (by omega),rfl⟩
       ·exact⟨_,[251],by simp,b0.up (by omega),rfl⟩
      ·exact⟨_,[62,(Zdo (Zd s' 8).2).1,211,IntKind.wrap .u8 (Zd (Zdo (Zd s' 8).2).2 8).1],by simp,b5.up (by omega),rfl⟩
     ·exact⟨_,[R.get (R.int .u8) [33,49,1,17] (Zd (Zd s' 8).2 4).1,IntKind.wrap .u8 (Zd (Zd (Zd s' 8).2 4).2 256).1,R.get (R.int .u8) [0,0,1,255] (Zd (Zd (Zd (Zd s' 8).2 4).2 256).2 4).1],by simp,b3.up (by omega),rfl⟩
    obtain⟨s2,x,hx,hs2,hv⟩:=hv
    exact⟨_,hv,⟨i,s2,o++x,by omega,hs2,by rw[Yd];omega,rfl⟩,by simp only;omega⟩)
  ((q:Int),s1,[],()) ⟨q,s1,[],Yg _,by simpa using b1,by simp,rfl⟩ (by simp only;omega)
 obtain⟨r1,r2⟩:=r;simp only at h1 hR;subst h1 hR;have hv:(Zhv s (n:Int)).val=some (o,s'):=by simp only[Zhv,RT.val,w0,c1,hq,<-hs1,hr,okB,getO,Ya]
 simp only[Zhw,Zcw,hv,okB,getO];exact⟨trivial,hs'.up (by omega),by omega⟩
theorem ZCy (t:Int) (b:List Int):(Zss t b).length<=b.length:=by have:=ZeN (Zrz t b b.length);rw[Zry] at this;exact this
theorem ZWX (h:NB s k) (hk:k<=300000):Zi0 s=true/\NB (Zec s).2 (k+20):=by
 obtain⟨c1,b1,_⟩:=ZE h (by omega) 64 (by decide) (by decide);obtain⟨c2,b2,_⟩:=ZE b1 (by omega) 256 (by decide) (by decide);obtain⟨c3,b3,_⟩:=Zly b1 (by omega);obtain⟨f1,g1⟩:=Zkc b1 (by omega);obtain⟨f2,g2⟩:=Zkc g1 (by omega);obtain⟨f3,g3⟩:=Zkc g2 (by omega);obtain⟨f4,g4⟩:=Zkc g3 (by omega);obtain⟨f5,g5⟩:=Zkc g4 (by omega);obtain⟨c4,b4,_⟩:=ZE g5 (by omega) 256 (by decide) (by decide);obtain⟨c5,b5,_⟩:=ZE b4 (by omega) 256 (by decide) (by decide);have hv:∃c s',(Zrh s).val=some (c,s')/\NB s' (k+20):=by
  simp only[Zrh,RT.val,c1,c2,c3,c4,c5,f1,f2,f3,f4,f5,Ya,Ye,Yi,Yh,Yu];cases decide ((Zd s 64).1<30) with
  |true=>exact⟨_,_,rfl,b1.up (by omega)⟩
  |false=>
  cases decide ((Zd s 64).1<36) with
  |true=>exact⟨_,_,rfl,b1.up (by omega)⟩
  |false=>
  cases decide ((Zd s 64).1<40) with
  |true=>exact⟨_,_,rfl,b1.up (by omega)⟩
  |false=>
  cases decide ((Zd s 64).1<46) with
  |true=>exact⟨_,_,rfl,b2.up (by omega)⟩
  |false=>
  cases decide ((Zd s 64).1<50) with
  |true=>exact⟨_,_,rfl,b1.up (by omega)⟩
  |false=>
  cases decide ((Zd s 64).1<53) with
  |true=>exact⟨_,_,rfl,b1.up (by omega)⟩
  |false=>
  cases decide ((Zd s 64).1<55) with
  |true=>exact⟨_,_,rfl,b1.up (by omega)⟩
  |false=>
  cases ((Zd s 64).1==55) with
  |true=>exact⟨_,_,rfl,b1.up (by omega)⟩
  |false=>
  cases decide ((Zd s 64).1<60) with
  |true=>exact⟨_,_,rfl,b3.up (by omega)⟩
  |false=>exact⟨_,_,rfl,b5.up (by omega)⟩
 obtain⟨c,s',hv,h1⟩:=hv;simp only[Zi0,Zec,hv,okB,getO];exact⟨trivial,h1⟩
theorem Z6W (s:List Int×Int) (z:Int) (c:INPT) (kk:Nat) (hk:kk<300) (o:List INPT) (size:Nat) (ho:o.length<=size) (hz:size<=300):
  ∃k2 o2,runF false Zeu (λ_=>400) ((size:Int),(kk:Int),s,c,o,())=some (false,(size:Int),k2,s,c,o2,())/\o2.length<=size/\o.length<=o2.length/\(o.length<size->o.length<o2.length):=by
 have hms:=mst;obtain⟨r,hr,h1,k2,o2,e1,e2,e3,e4⟩:=ZM (fl:=false) (t:=Zeu) (fuel:=λ_=>400)
  (λa=>∃(j:Nat) (o2:List INPT),j<=kk+1/\o2.length<=size/\o.length<=o2.length/\(j=kk+1\/o.length<o2.length)/\a=((size:Int),(j:Int)-1,s,c,o2,()))
  (λa=>Int.toNat (a.2.1+1)) (λr=>r.1=false/\∃k2 o2,r.2=((size:Int),k2,s,c,o2,())/\o2.length<=size/\o.length<=o2.length/\(o.length<size->o.length<o2.length))
  (by
   rintro a ⟨j,o2,hj,h2,h3,h4,rfl⟩;have w:∀j:Nat,j<=1000->IntKind.wrap .i64 (((j:Nat):Int)-1-1)=(j:Int)-1-1:=λj hj=>wrap_i64 _ (by omega) (by omega)
   by_cases hc:1<=j/\o2.length<size
   ·left;have d1:decide (((j:Nat):Int)-1>=0)=true:=YA (by omega);have d2:decide (iN o2.length<(size:Int))=true:=YA (by simp only[iN,Le];omega);have hb:Nat.ble (o2++[c]).length most=true:=Zai (by simp;omega);refine⟨((size:Int),(j:Int)-1-1,s,c,o2++[c],()),?_,⟨j-1,o2++[c],by omega,by simp;omega,by simp;omega,by right;simp;omega,?_⟩,by simp only;omega⟩
    ·simp only[Zeu,RT.val,d1,d2,hb,YV,Ya,w j (by omega)]
    ·have:((j:Nat):Int)-1=((j-1:Nat):Int):=by omega
     rw[this]
   ·right;left;have d:(decide (((j:Nat):Int)-1>=0)&&decide (iN o2.length<(size:Int)))=false:=by simp only[iN,Le,Yac,Y5];omega
    exact⟨((size:Int),(j:Int)-1,s,c,o2,()),by simp only[Zeu,RT.val,d,Yc],rfl,_,o2,rfl,h2,h3,λh=>by
     rcases h4 with h4|h4
     ·omega
     ·exact h4⟩)
  ((size:Int),(kk:Int),s,c,o,()) ⟨kk+1,o,Yg _,ho,Yg _,.inl rfl,by
   have:(kk:Int)=((kk+1:Nat):Int)-1:=by omega
   rw[<-this]⟩ (by simp only;omega)
 obtain⟨r1,r2⟩:=r;simp only at h1 e1;subst h1 e1;exact⟨k2,o2,hr,e2,e3,e4⟩
theorem ZPR (h:NB s k) (hk:k<=100000) (n:Nat) (hn:n<=250):
  Zkb s (n:Int)=true/\NB (Zaj s (n:Int)).2 (k+1+30*n)/\(Zaj s (n:Int)).1.length<=n:=by
 have hms:=mst;have w0:IntKind.wrap .i64 ((n:Int)+1)=(n:Int)+1:=wrap_i64 _ (by omega) (by omega);obtain⟨c1,b1,d0,d1⟩:=ZE h (by omega) ((n:Int)+1) (by omega) (by omega);obtain⟨s1,hs1⟩:∃s1,s1=(Zd s ((n:Int)+1)).2:=⟨_,rfl⟩;obtain⟨q,hq⟩:∃q:Nat,(Zd s ((n:Int)+1)).1=(q:Int):=⟨_,(Yau d0).symm⟩;rw[<-hs1] at b1;obtain⟨r,hr,h1,s',o,hs',ho,hR⟩:=ZM (fl:=false) (t:=ZfX) (fuel:=λa=>400)
  (λa=>∃(s':List Int×Int) (o:List INPT),NB s' (k+1+30*(o.length:Int))/\o.length<=q/\a=((q:Int),s',o,()))
  (λa=>Int.toNat a.1-a.2.2.1.length) (λr=>r.1=false/\∃(s':List Int×Int) (o:List INPT),NB s' (k+1+30*(q:Int))/\o.length<=q/\r.2=((q:Int),s',o,()))
  (by
   rintro a ⟨s',o,hs',ho,rfl⟩;by_cases hc:o.length<q
   ·left;have d:decide (iN o.length<(q:Int))=true:=YA (by simp only[iN,Le];omega);obtain⟨i1,g1⟩:=ZWX hs' (by omega);obtain⟨i2,g2,m0,m1⟩:=ZE g1 (by omega) 4 (by decide) (by decide);obtain⟨i3,g3,m2,m3⟩:=ZE g2 (by omega) 5 (by decide) (by decide);obtain⟨x,hx⟩:∃x:Nat,(Zd (Zec s').2 4).1=(x:Int):=⟨_,(Yau m0).symm⟩;obtain⟨y,hy⟩:∃y:Nat,(Zd (Zd (Zec s').2 4).2 5).1=(y:Int):=⟨_,(Yau m2).symm⟩;have hxy:x*y<=3*4:=Nat.mul_le_mul (by omega) (by omega);have w:IntKind.wrap .i64 ((x:Int)*(y:Int))=((x*y:Nat):Int):=by rw[show (x:Int)*(y:Int)=((x*y:Nat):Int) by simp,wrap_i64 _ (by omega) (by omega)]
    obtain⟨k2,o2,hr,e2,e3,e4⟩:=Z6W (Zd (Zd (Zec s').2 4).2 5).2 0 (Zec s').1 (x*y) (by omega) o q ho (by omega);have e5:=e4 hc;refine⟨((q:Int),(Zd (Zd (Zec s').2 4).2 5).2,o2,()),?_,⟨_,o2,g3.up (by omega),e2,rfl⟩,by simp only;omega⟩;simp only[ZfX,RT.val,d,i1,i2,i3,hx,hy,w,hr,okB,getO,Ya,Ye,Yi,Yh,Yu]
   ·right;left;have d:decide (iN o.length<(q:Int))=false:=Y6 (by simp only[iN,Le];omega)
    exact⟨_,by simp only[ZfX,RT.val,d,Yc],rfl,s',o,hs'.up (by omega),ho,rfl⟩)
  ((q:Int),s1,[],()) ⟨s1,[],by simpa using b1,by simp,rfl⟩ (by simp only[List.length_nil];omega)
 obtain⟨r1,r2⟩:=r;simp only at h1 hR;subst h1 hR;have hv:(Zka s (n:Int)).val=some (o,s'):=by simp only[Zka,RT.val,w0,c1,hq,<-hs1,hr,okB,getO,Ya]
 simp only[Zkb,Zaj,hv,okB,getO];exact⟨trivial,hs'.up (by omega),by omega⟩
theorem ZW3 (h:NB s k) (hk:k<=10000):
  Zrm s=true/\NB (Zdd s).2 (k+300)/\(∃s1,NB s1 (k+1)/\(Zdd s).1.2.1=(nMap s1).1)/\((Zdd s).1.1=1\/(Zdd s).1.1=2)/\
   (0<=(Zdd s).1.2.2.1/\(Zdd s).1.2.2.1<=2)/\∃l:List Cell,l.length<=200/\(Zdd s).1.2.2.2.2.2.2=normX l:=by
 have hms:=mst;obtain⟨c0,b0,hch⟩:=Z1c h (by omega);obtain⟨c1,b1,l1⟩:=ZWT b0 (by omega);obtain⟨c2,b2,w0,w1⟩:=ZE b1 (by omega) 3 (by decide) (by decide);obtain⟨c3,b3,_⟩:=ZE b2 (by omega) 4 (by decide) (by decide);obtain⟨c4,b4,_⟩:=ZE b3 (by omega) 6 (by decide) (by decide);obtain⟨c5,b5,_⟩:=Znq b4 (by omega);obtain⟨c6,b6,_⟩:=Znq b5 (by omega)
 obtain⟨s2,hs2,b7⟩:∃s2,s2=((bif (Zd (Zd (Zd (nMap (Za7 s).2).2 3).2 4).2 6).1==0 then (Zdo (Zdo (Zd (Zd (Zd (nMap (Za7 s).2).2 3).2 4).2 6).2).2).2.1 else (Zd (Zd (Zd (nMap (Za7 s).2).2 3).2 4).2 6).2.1,
   bif (Zd (Zd (Zd (nMap (Za7 s).2).2 3).2 4).2 6).1==0 then (Zdo (Zdo (Zd (Zd (Zd (nMap (Za7 s).2).2 3).2 4).2 6).2).2).2.2 else (Zd (Zd (Zd (nMap (Za7 s).2).2 3).2 4).2 6).2.2):List Int×Int)/\NB s2 (k+30):=by
  refine⟨_,rfl,?_⟩;cases (Zd (Zd (Zd (nMap (Za7 s).2).2 3).2 4).2 6).1==0
  ·exact b4.up (by omega)
  ·exact b6.up (by omega)
 obtain⟨c8,b8,l8⟩:=ZHJ b7 (by omega) 12 (by omega);have c8:Zhw s2 12=true:=c8;have b8:NB (Zcw s2 12).2 (k+30+1+10*((12:Nat):Int)):=b8;have l8:(Zcw s2 12).1.length<=12*12:=l8;obtain⟨c9,b9,d0,d1⟩:=ZE b8 (by omega) 4 (by decide) (by decide);have hl:=ZCy 0 (Zcw s2 12).1;obtain⟨q,hq⟩:∃q:Nat,(Zd (Zcw s2 12).2 4).1=(q:Int):=⟨_,(Yau d0).symm⟩;have hg:∀l:List Cell,Stg.l (newG Zc3 ZuU l)=l:=λ_=>rfl
 have key:∀x y z:BRDT,∀o:List Cell,o.length<=144->∃s' o',NB s' (k+200)/\o'.length<=200/\
   runF false ZfY (λ_=>400) ((q:Int),(Zd (Zcw s2 12).2 4).2,x,y,o,())=some (false,0,s',x,y,o',()):=by
  intro x y z o ho;obtain⟨r,hr,h1,s',o',g1,g2,g3⟩:=ZM (fl:=false) (t:=ZfY) (fuel:=λ_=>400)
   (λa=>∃(i:Nat) (s':List Int×Int) (o:List Cell),i<=q/\NB s' (k+30+1+10*((12:Nat):Int)+1+4*((q-i:Nat):Int))/\o.length<=144+3*(q-i)/\a=((i:Int),s',x,y,o,()))
   (λa=>Int.toNat a.1) (λr=>r.1=false/\∃s' o',NB s' (k+200)/\o'.length<=200/\r.2=(0,s',x,y,o',()))
   (by
    rintro a ⟨i,s',o,hi,hs',ho,rfl⟩;cases i with
    |zero=>
     right;left;exact⟨_,by simp only[ZfY,RT.val];rfl,rfl,s',o,hs'.up (by omega),by omega,rfl⟩
    |succ i=>
     left;have d:decide (((i+1:Nat):Int)>0)=true:=YA (by omega);have w:IntKind.wrap .i64 (((i+1:Nat):Int)-1)=(i:Int):=by rw[wrap_i64 _ (by omega) (by omega)];omega
     obtain⟨k0,b0,e0,e1⟩:=ZE hs' (by omega) 6 (by decide) (by decide);obtain⟨k1,b1,_⟩:=Zly b0 (by omega);have r1:Ze (Zd s' 6).1 6=true:=ZF.2 ⟨e0,e1⟩;have hsb:∀a b c:Int,smB [a,b,c]=true:=λa b c=>Z2x (by simp)
     have hll:=ZCy (IntKind.wrap .u16 (R.get (R.int .i64) [36,60,52,44,56,32] (Zd s' 6).1)) [(Zat (Zd s' 6).2).1,251,201];simp only[List.length_cons,List.length_nil] at hll;have hb:Nat.ble (o++Zss (IntKind.wrap .u16 (R.get (R.int .i64) [36,60,52,44,56,32] (Zd s' 6).1)) [(Zat (Zd s' 6).2).1,251,201]).length most=true:=Zai (by rw[Yd];omega);refine⟨((i:Int),(Zat (Zd s' 6).2).2,x,y,o++Zss (IntKind.wrap .u16 (R.get (R.int .i64) [36,60,52,44,56,32] (Zd s' 6).1)) [(Zat (Zd s' 6).2).1,251,201],()),?_,⟨i,_,_,by omega,b1.up (by omega),by rw[Yd];omega,rfl⟩,by simp only;omega⟩
     simp only[ZfY,RT.val,hg,List.length_cons,List.length_nil,Nat.reduceAdd,d,w,k0,k1,r1,hsb,hb,Ya,Ye,Yi,Yh,Yu])
   ((q:Int),(Zd (Zcw s2 12).2 4).2,x,y,o,()) ⟨q,_,o,Yg _,b9.up (by omega),by omega,rfl⟩ (by simp only;omega)
  obtain⟨r1,r2⟩:=r;simp only at h1 g3;subst h1 g3;exact⟨s',o',g1,g2,hr⟩
 obtain⟨s',o',g1,g2,hr⟩:=key (0,[],0,0,0,false,[]) ((Za7 s).1,(nMap (Za7 s).2).1,(Zd (nMap (Za7 s).2).2 3).1,bif (Zd (Zd (Zd (nMap (Za7 s).2).2 3).2 4).2 6).1==0 then (Zdo (Zd (Zd (Zd (nMap (Za7 s).2).2 3).2 4).2 6).2).1 else 0,
  bif (Zd (Zd (Zd (nMap (Za7 s).2).2 3).2 4).2 6).1==0 then (Zdo (Zdo (Zd (Zd (Zd (nMap (Za7 s).2).2 3).2 4).2 6).2).2).1 else 4,(Zd (Zd (nMap (Za7 s).2).2 3).2 4).1==0,[]) (0,[],0,0,0,false,[]) (Zss 0 (Zcw s2 12).1) (by omega)
 have hsc:smC o'=true:=Z7I (by omega);have hsb:smB (Zcw s2 12).1=true:=Z2x (by omega);have hv:∃p d,(Zrl s).val=some (((Za7 s).1,(nMap (Za7 s).2).1,(Zd (nMap (Za7 s).2).2 3).1,p,d,(Zd (Zd (nMap (Za7 s).2).2 3).2 4).1==0,normX o'),s'):=by
  refine⟨bif (Zd (Zd (Zd (nMap (Za7 s).2).2 3).2 4).2 6).1==0 then (Zdo (Zd (Zd (Zd (nMap (Za7 s).2).2 3).2 4).2 6).2).1 else 0,
   bif (Zd (Zd (Zd (nMap (Za7 s).2).2 3).2 4).2 6).1==0 then (Zdo (Zdo (Zd (Zd (Zd (nMap (Za7 s).2).2 3).2 4).2 6).2).2).1 else 4,?_⟩
  simp only[Zrl,RT.val,hg,<-hs2,c0,c1,c2,c3,c4,c5,c6,c8,c9,hsb,hq,hr,hsc,okB,getO,Ya,Ye,Yi,Yh,Yu]
 obtain⟨p,d,hv⟩:=hv;have e1:Zrm s=true:=by simp only[Zrm,hv];rfl
 have e2:Zdd s=(((Za7 s).1,(nMap (Za7 s).2).1,(Zd (nMap (Za7 s).2).2 3).1,p,d,(Zd (Zd (nMap (Za7 s).2).2 3).2 4).1==0,normX o'),s'):=by simp only[Zdd,hv,getO]
 rw[e2];exact⟨e1,g1.up (by omega),⟨_,b0,rfl⟩,hch,⟨w0,by show (Zd (nMap (Za7 s).2).2 3).1<=2;omega⟩,o',g2,rfl⟩
theorem Z4l (s:Int) {l:Int} (h:0<=l):vOnC s l=true:=by simp only[vOnC,vOnT,RT.val,YA h,Ya,okB]
theorem ZuQ (s k:Int):Ziq s k=true/\ -1<=Zdx s k/\Zdx s k<=7:=by
 obtain⟨r,hr,h0,h1,h2⟩:=ZM (fl:=false) (t:=Zc4) (fuel:=λ_=>9)
  (λa=>∃(i:Nat) (m:Int),i<=8/\ -1<=m/\m<=7/\a=(s,k,m,(i:Int),()))
  (λa=>Int.toNat (8-a.2.2.2.1)) (λr=>r.1=false/\ -1<=r.2.2.2.1/\r.2.2.2.1<=7)
  (by
   rintro a ⟨i,m,hi,h1,h2,rfl⟩;by_cases hlt:i<8
   ·left;have d:decide ((i:Int)<8)=true:=YA (by omega);have w:IntKind.wrap .i64 ((i:Int)+1)=((i+1:Nat):Int):=by rw[wrap_i64 _ (by omega) (by omega)];omega
    have c:vOnC s (i:Int)=true:=Z4l s (by omega);refine⟨(s,k,bif vOn s (i:Int)&&(decide (m<0)||decide (Zdm (i:Int) k<Zdm m k)) then (i:Int) else m,((i+1:Nat):Int),()),by simp only[Zc4,RT.val,d,c,w,Ya],⟨i+1,_,by omega,?_,?_,rfl⟩,by simp only;omega⟩
    ·cases vOn s (i:Int)&&(decide (m<0)||decide (Zdm (i:Int) k<Zdm m k))<;>simp only[Ya,Yc]<;>omega
    ·cases vOn s (i:Int)&&(decide (m<0)||decide (Zdm (i:Int) k<Zdm m k))<;>simp only[Ya,Yc]<;>omega
   ·right;left;have d:decide ((i:Int)<8)=false:=Y6 (by omega)
    exact⟨(s,k,m,(i:Int),()),by simp only[Zc4,RT.val,d,Yc],rfl,h1,h2⟩)
  (s,k,-1,0,()) ⟨0,-1,by omega,by omega,by omega,rfl⟩ (by simp only;omega)
 obtain⟨r1,r2⟩:=r;simp only at h0 h1 h2;subst h0;have hv:(Zl4 s k).val=some r2.2.2.1:=by simp only[Zl4,RT.val,hr,okB,getO,Ya]
 exact⟨by simp only[Ziq,hv];rfl,by simp only[Zdx,hv,getO];exact h1,by simp only[Zdx,hv,getO];exact h2⟩
theorem ZuP (p:PICT):Zsh p=true/\ -1<=vPck p/\vPck p<=7:=by
 have key:∀r m s k q,∃v:Int,(Zl3 r m s k q).val=some v/\ -1<=v/\v<=7:=by
  intro r m s k q;have h1:=ZuQ (Z8 .u8 r m) k;have h2:=ZuQ (ZcG m s q) k;simp only[Zl3,RT.val,h1.1,h2.1,Ya];cases decide (Zdx (Z8 .u8 r m) k>=0)&&(decide (Zdx (ZcG m s q) k<0)||decide (Zdm (Zdx (Z8 .u8 r m) k) k<Zdm (Zdx (ZcG m s q) k) k))
  ·exact⟨-1,rfl,by omega,by omega⟩
  ·exact⟨_,rfl,h1.2.1,h1.2.2⟩
 obtain⟨v,hv,h1,h2⟩:=key (vReq p) p.2.2.2.2.2.2.2.2.2.2.2.2.2.2.2.1 p.2.2.2.2.2.2.2.2.2.2.2.2.2.2.1 p.2.2.2.2.2.2.2.2.2.2.2.2.2.2.2.2.1 p.2.2.2.2.2.2.2.2.2.1;have e:(ZDF p).val=some v:=by simp only[ZDF,RT.val,ZsO,ZDD,hv,okB,getO,Ya]
 exact⟨by simp only[Zsh,e];rfl,by simp only[vPck,e,getO];exact h1,by simp only[vPck,e,getO];exact h2⟩
theorem Z4o (p:PICT):ZMS p=true:=by simp only[ZMS,ZMR,RT.val,(ZuP p).1,Ya,okB]
variable {x:Int}
theorem ZIU (p:PICT) (h:0<=x):ZgV p x=true:=by simp only[ZgV,ZsJ,RT.val,YA h,Ya,okB]
theorem ZI6 (p:PICT) (h:0<=x):Zir p x=true:=by simp only[Zir,ZzU,RT.val,YA h,Ya,okB]
theorem ZRs (p:PICT):ZMW p=true:=by
 have h1:=(ZuP p).1;have h3:∀q:PICT,Zir q (andI .i64 p.2.2.2.2.2.2.2.2.2.2.2.2.2.2.2.2.2.2.1 7)=true:=λq=>ZI6 q (and7 _).1
 have h2:∀q:PICT,(!decide (vPck p>=0)||ZgV q (vPck p))=true:=λq=>by
  by_cases h:vPck p>=0
  ·rw[ZIU q h,Yh]
  ·rw[Y6 h];rfl
 unfold ZMW ZMV;simp only[RT.val,h1,h2,h3,Yh,Ya];cases p.2.2.2.2.2.2.2.2.2.2.2.2.2.2.2.2.2.1==0
 ·cases p.2.2.2.2.2.2.2.2.2.2.2.2.2.2.2.2.2.1==1
  ·rfl
  ·cases p.2.2.1<;>rfl
 ·rfl
theorem ZIV (p:PICT) (h:Bool):ZsN p h=true:=by
 have h1:=(ZuP p).1;unfold ZsN ZsM;by_cases hx:0<=vPck p
 ·have h2:∀q:PICT,ZgV q (vPck p)=true:=λq=>ZIU q hx
  have h3:∀q:PICT,Zir q (vPck p)=true:=λq=>ZI6 q hx
  simp only[RT.val,h1,h2,h3,ZaV,Zao,Yh,Ye,Ya];cases h
  ·cases p.2.2.2.2.2.2.2.2.2.2.2.1
   ·cases p.2.2.2.2.2.2.2.2.2.2.1<;>rfl
   ·cases decide (vPck p<0)<;>rfl
  ·rfl
 ·have h2:decide (vPck p<0)=true:=YA (by omega);simp only[RT.val,h1,h2,ZaV,Zao,Yh,Ys,Ye,Ya];cases h
  ·cases p.2.2.2.2.2.2.2.2.2.2.2.1
   ·cases p.2.2.2.2.2.2.2.2.2.2.1<;>rfl
   ·rfl
  ·rfl
theorem ZYY (p:PICT) (v:Int):ZsQ p v=true:=by
 have h1:=λs k=>(ZuQ s k).1
 have h2:∀x:Int,(!decide (x>=0)||decide (0<=x))=true:=λx=>by by_cases h:0<=x<;>simp[h]
 have h3:decide (0<=IntKind.wrap .i64 (andI .u8 v 7))=true:=by have:=Z82 v;rw[wrap_i64 _ (by omega) (by omega)];exact YA this.1
 unfold ZsQ ZsP;simp only[RT.val,h1,h2,h3,ZaV,Zao,Yh,Ye,Ya];rfl
theorem ZzP (p:PICT) (h:Bool) (v:Int):ZkL p h v=true:=by
 unfold ZkL ZkK;simp only[RT.val,ZYY,Yh,Ya];cases h
 ·cases andI .u8 v 16 !=0
  ·cases andI .u8 v 8==0<;>rfl
  ·rfl
 ·rfl
theorem ZRa (d:QT4) (r:Int):ZkN d r=true:=by have h:=and3 r;have h1:decide (0<=andI .i64 r 3/\andI .i64 r 3<4)=true:=YA ⟨h.1,by omega⟩;simp only[ZkN,ZkM,RT.val,h1,Ya,okB]
theorem Ze9 (o:Bool) {n:Int} (h:0<=n):Zga o n=true:=by simp only[Zga,ZYT,RT.val,YA h,Yh,Ya];cases o<;>rfl
theorem ZMM (l:List INPT) (hl:l.length<=1000):ZmK l=true/\(ZiF l).length=4*l.length:=by
 have hms:=mst;obtain⟨r,hr,h0,h1⟩:=ZM (fl:=false) (t:=Zdw) (fuel:=λ_=>1000000000000)
  (λa=>∃(i:Nat) (o:List Int),i<=l.length/\o.length=4*i/\a=(l,(l.length:Int),(i:Int),o,()))
  (λa=>Int.toNat (a.2.1-a.2.2.1)) (λr=>r.1=false/\r.2.2.2.2.1.length=4*l.length)
  (by
   rintro a ⟨i,o,hi,ho,rfl⟩;by_cases hlt:i<l.length
   ·left;have d:decide ((i:Int)<(l.length:Int))=true:=YA (by omega);have d2:decide ((i:Int)>=65536)=false:=Y6 (by omega);have hin:Ze (i:Int) l.length=true:=ZF.2 ⟨by omega,by omega⟩;have w:IntKind.wrap .i64 ((i:Int)+1)=((i+1:Nat):Int):=by rw[wrap_i64 _ (by omega) (by omega)];omega
    have hb:∀a b c d:Int,Nat.ble (o++[a,b,c,d]).length most=true:=λa b c d=>Zai (by simp;omega)
    have b0:=λx=>Ze9 x (n:=0) (by decide)
    have b1:=λx=>Ze9 x (n:=1) (by decide)
    have b2:=λx=>Ze9 x (n:=2) (by decide)
    have b3:=λx=>Ze9 x (n:=3) (by decide)
    have b4:=λx=>Ze9 x (n:=4) (by decide)
    have b5:=λx=>Ze9 x (n:=5) (by decide)
    have b6:=λx=>Ze9 x (n:=6) (by decide)
    have b7:=λx=>Ze9 x (n:=7) (by decide)
    have hv:∃a b c d:Int,(Zdw (l,(l.length:Int),(i:Int),o,())).val=some (Go1.cont (l,(l.length:Int),((i+1:Nat):Int),o++[a,b,c,d],())):=by simp only[Zdw,RT.val,d,d2,hin,w,hb,b0,b1,b2,b3,b4,b5,b6,b7,ZaV,Zao,Yh,Ye,Yi,Yu,Ya,Yc];exact⟨_,_,_,_,rfl⟩
    obtain⟨a,b,c,d,hv⟩:=hv;exact⟨_,hv,⟨i+1,_,by omega,by simp;omega,rfl⟩,by simp only;omega⟩
   ·right;left;have d:decide ((i:Int)<(l.length:Int))=false:=Y6 (by omega)
    exact⟨(l,(l.length:Int),(i:Int),o,()),by simp only[Zdw,RT.val,d,Yc],rfl,by simp only;omega⟩)
  (l,(l.length:Int),0,[],()) ⟨0,[],by omega,rfl,rfl⟩ (by simp only;omega)
 obtain⟨r1,r2⟩:=r;simp only at h0 h1;subst h0;have hv:(Zf8 l).val=some r2.2.2.2.1:=by simp only[Zf8,RT.val,iN,Le,hr,okB,getO,Ya]
 exact⟨by simp only[ZmK,hv];rfl,by simp only[ZiF,hv,getO];exact h1⟩
theorem ZMO (l:List Int) (hl:l.length<=4000):ZmL l=true/\(Za9 l).length=l.length/4:=by
 have hms:=mst;obtain⟨r,hr,h0,h1⟩:=ZM (fl:=false) (t:=ZbA) (fuel:=λ_=>1000000000000)
  (λa=>∃(i:Nat) (o:List INPT),4*i<=l.length/\o.length=i/\a=(l,((4*i:Nat):Int),o,()))
  (λa=>Int.toNat (l.length-a.2.1)) (λr=>r.1=false/\r.2.2.2.1.length=l.length/4)
  (by
   rintro a ⟨i,o,hi,ho,rfl⟩;have w1:IntKind.wrap .i64 (((4*i:Nat):Int)+1)=((4*i+1:Nat):Int):=by rw[wrap_i64 _ (by omega) (by omega)];omega
   have w2:IntKind.wrap .i64 (((4*i:Nat):Int)+2)=((4*i+2:Nat):Int):=by rw[wrap_i64 _ (by omega) (by omega)];omega
   have w3:IntKind.wrap .i64 (((4*i:Nat):Int)+3)=((4*i+3:Nat):Int):=by rw[wrap_i64 _ (by omega) (by omega)];omega
   have w4:IntKind.wrap .i64 (((4*i:Nat):Int)+4)=((4*(i+1):Nat):Int):=by rw[wrap_i64 _ (by omega) (by omega)];omega
   by_cases hlt:4*i+4<=l.length
   ·left;have d:(decide (((4*(i+1):Nat):Int)<=iN l.length)&&decide (iN o.length<65536))=true:=by simp only[iN,Le,Yb,Yj];omega
    have i0:Ze ((4*i:Nat):Int) l.length=true:=ZF.2 ⟨by omega,by omega⟩;have i1:Ze ((4*i+1:Nat):Int) l.length=true:=ZF.2 ⟨by omega,by omega⟩;have i2:Ze ((4*i+2:Nat):Int) l.length=true:=ZF.2 ⟨by omega,by omega⟩;have i3:Ze ((4*i+3:Nat):Int) l.length=true:=ZF.2 ⟨by omega,by omega⟩;have hb:∀a:INPT,Nat.ble (o++[a]).length most=true:=λa=>Zai (by simp;omega)
    have hv:∃x:INPT,(ZbA (l,((4*i:Nat):Int),o,())).val=some (Go1.cont (l,((4*(i+1):Nat):Int),o++[x],())):=by
     simp only[ZbA,RT.val,w1,w2,w3,w4,d,i0,i1,i2,i3,hb,ZaV,Zao,Yh,Ye,Yi,Yu,Ya,Yc];cases R.get (R.int .u8) l ((4*i+3:Nat):Int) !=ZfD (R.get (R.int .u8) l ((4*i:Nat):Int)) (R.get (R.int .u8) l ((4*i+1:Nat):Int)) (R.get (R.int .u8) l ((4*i+2:Nat):Int))
     ·exact⟨_,rfl⟩
     ·exact⟨_,rfl⟩
    obtain⟨x,hv⟩:=hv;exact⟨_,hv,⟨i+1,_,by omega,by simp;omega,rfl⟩,by simp only;omega⟩
   ·right;left;have d:(decide (((4*(i+1):Nat):Int)<=iN l.length)&&decide (iN o.length<65536))=false:=by simp only[iN,Le,Yac,Y5];left;omega
    exact⟨(l,((4*i:Nat):Int),o,()),by simp only[ZbA,RT.val,w4,d,Yc],rfl,by simp only;omega⟩)
  (l,0,[],()) ⟨0,[],by omega,rfl,rfl⟩ (by simp only;omega)
 obtain⟨r1,r2⟩:=r;simp only at h0 h1;subst h0;have hv:(Zf9 l).val=some r2.2.2.1:=by simp only[Zf9,RT.val,hr,okB,getO,Ya]
 exact⟨by simp only[ZmL,hv];rfl,by simp only[Za9,hv,getO];exact h1⟩
abbrev MacT:=List Z9×List Cell×List Int×List (Int×Int)
theorem ZnD (l:List Z9) (m:List Cell) (t v:Int):(Zbn l m t v).length<=m.length+1:=by
 have h:=ZeN m;unfold Zbn;cases decide (Zbm l t>=0)&&(R.get GR l (Zbm l t)).2.2.1
 ·exact YO h (YaP _)
 ·exact YO (ZwP _ _) (by omega)
def pre (o:List (Int×Int)) (m:MacT):MacT:=(m.1,m.2.1,m.2.2.1,o++m.2.2.2)
