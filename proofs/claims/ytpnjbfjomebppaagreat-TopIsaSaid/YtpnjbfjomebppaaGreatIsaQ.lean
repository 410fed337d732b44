import Derived.Test.YtpnjbfjomebppaaGreatRunL
import Derived.Test.YtpnjbfjomebppaaGreatS3New
open Go.Proofs.Tryz (prog)
open Go.IntKind (u8 u16 i64)
set_option linter.unusedSimpArgs false
open Go Go.S3 Go.Proofs
set_option linter.unusedVariables false
set_option maxRecDepth 100000
namespace Go.Proofs.YtpnjbfjomebppaaGreat
noncomputable section
def ZRi:LS:={n:=53,Sl:=[(3,.fix (A.loc 0 0)),(5,.tip 0),(6,.code (So R.bool)),(9,.code (So rcCE)),(10,.code (So Kc)),(11,.code (So Kc))],Bx:=[[.many (R.Pq Kb Ka)]],Sg:=[⟨(R.Pq Kb Ka),75,false⟩]}
def ZEk (a:QT9):RT (Option (Go1 (QT9))):=
 let x1:Int×Int:=R.get (R.Pq Kb Ka) a.2.1 a.2.2.2.1
 let x2:=x1.1
 let x3:= !a.1&&decide (x2>=a.2.2.2.2.1.1)
 let x4:List (Int×Int):=a.2.2.2.2.2.1++[a.2.2.2.2.1]
 let x5:= !x3||(!a.2.2.2.2.1.2 !=0||Nat.ble (Le x4) most)
 let x6:=x2 !=a.2.2.2.2.1.1
 let x7:List (Int×Int):=bif x3 then bif a.2.2.2.2.1.2 !=0 then x4 else a.2.2.2.2.2.1 else a.2.2.2.2.2.1
 let x8:List (Int×Int):=x7++[x1]
 .br (decide (a.2.2.2.1<a.2.2.1)) (.br (!Zf a.2.2.2.1 (Le a.2.1)||(!x5||(!x6||Nat.ble (Le x8) most))) (.br (!Zf a.2.2.2.1 (Le a.2.1)||x5) (.br (Zf a.2.2.2.1 (Le a.2.1)) (Ls (Go1.cont (x3||a.1,a.2.1,a.2.2.1,i64.wrap (a.2.2.2.1+1),a.2.2.2.2.1,bif x6 then x8 else x7,PUnit.unit))) Ln) Ln) Ln) (Ls (Go1.brk (a.1,a.2.1,a.2.2.1,a.2.2.2.1,a.2.2.2.2.1,a.2.2.2.2.2.1,PUnit.unit)))
def ZEl:Ora:=ZaY false ZRi ZEk (λa=>1000000000000)
theorem ZG3:ZaB (envX prog [] [] 511 8) (.block 0 (.loop (ZX Tryz.f165.body 0))) ZEl:=
 loopP trivial
def ZEj (m:List (Int×Int)) (c:Int×Int):RT (Option (List (Int×Int))):=
 let x1:QT9:=(false,m,iN (Le m),0,c,[],())
 let x2:=runF false ZEk (λa=>1000000000000) x1
 let x3:QT9:=(getO (false,x1) x2).2
 let x4:=x3.2.2.2.2
 let x5:=x4.1
 let x6:= !x3.1&&x5.2 !=0
 let x7:=x4.2.1
 let x8:List (Int×Int):=x7++[x5]
 .br (okB x2) (.br (!x6||Nat.ble (Le x8) most) (Ls (bif x6 then x8 else x7)) Ln) Ln
def ZRj (m:List (Int×Int)) (c:Int×Int):List (Int×Int):=getO [] (ZEj m c).val
def ZEm (m:List (Int×Int)) (c:Int×Int):Bool:=okB (ZEj m c).val
def ZLf:En:=frzE (newE ZcR Zsc ZLh (λa=>some (ZEm a.1 a.2)) (λa=>ZRj a.1 a.2))
theorem ZLg:Zb prog 165 (newE ZcR Zsc ZLh (λa=>some (ZEm a.1 a.2)) (λa=>ZRj a.1 a.2)):=
 Zml (P:=prog) (n:=511) (k:=8) (l:=[]) (ol:=[(0,ZEl)]) trivial Tryz.func165 rfl (by kernel_rfl) Tryz.call165 ⟨ZG3,Tv⟩ (r:=ZcR) (T:=Zsc) (ts:=ZLh) (t:=λa=>ZEj a.1 a.2) (λa=>by kernel_rfl)
theorem ZEi:Zb prog 165 ZLf:=Zy4 ZLg
def ZLm:LS:={n:=21,Sl:=[(3,.tip 0),(10,.code (So rcCE)),(11,.code (So Kc)),(12,.code (So Kc))],Bx:=[],Sg:=[⟨(R.Pq Kb Ka),75,false⟩]}
def ZgI (a:List (Int×Int)×Int×Int×List (Int×Int)×PUnit):RT (Option (Go1 (List (Int×Int)×Int×Int×List (Int×Int)×PUnit))):=
 .br (decide (a.2.2.1<a.2.1)) (.br (!Zf a.2.2.1 (Le a.1)||ZEm a.2.2.2.1 (R.get (R.Pq Kb Ka) a.1 a.2.2.1)) (.br (Zf a.2.2.1 (Le a.1)) (Ls (Go1.cont (a.1,a.2.1,i64.wrap (a.2.2.1+1),Stg.l (newG ZcR Zsc (ZRj a.2.2.2.1 (R.get (R.Pq Kb Ka) a.1 a.2.2.1))),PUnit.unit))) Ln) Ln) (Ls (Go1.brk (a.1,a.2.1,a.2.2.1,a.2.2.2.1,PUnit.unit)))
def ZwM:Ora:=ZaY false ZLm ZgI (λa=>1000000000000)
theorem ZAm:ZaB (envX prog [(105,ZsM),(165,ZLf)] [] 63 8) (.block 0 (.loop (ZX Tryz.f93.body 0))) ZwM:=
 loopP ⟨Zq2,ZEi,Tv⟩
def Zks (l:List (Int×Int)):RT (Option (List (Int×Int))):=
 let x1:=runF false ZgI (λa=>1000000000000) (l,iN (Le l),0,[],())
 .br (smC l) (.br (!vldB l||Nat.ble (Le ([]++l)) most) (.br (vldB l) (Ls ([]++l)) (.br (okB x1) (Ls (getO (false,l,iN (Le l),0,[],()) x1).2.2.2.2.1) Ln)) Ln) Ln
def ZwN (l:List (Int×Int)):List (Int×Int):=getO [] (Zks l).val
def Znq (l:List (Int×Int)):Bool:=okB (Zks l).val
def ZAn:En:=frzE (newE ZcR Zsc ZCN (λa=>some (Znq a)) (λa=>ZwN a))
theorem ZG5:Zb prog 93 (newE ZcR Zsc ZCN (λa=>some (Znq a)) (λa=>ZwN a)):=
 Zml (P:=prog) (n:=63) (k:=8) (l:=[(105,ZsM),(165,ZLf)]) (ol:=[(0,ZwM)]) ⟨Zq2,ZEi,Tv⟩ Tryz.func93 rfl (by kernel_rfl) Tryz.call93 ⟨ZAm,Tv⟩ (r:=ZcR) (T:=Zsc) (ts:=ZCN) (t:=λa=>Zks a) (λa=>by kernel_rfl)
theorem ZwL:Zb prog 93 ZAn:=Zy4 ZG5
abbrev ZsY:List Sh:=[So Kb,So (R.sl Ka)]
def ZLo:LS:={n:=27,Sl:=[(0,.code (So Kb)),(1,.code (So (R.sl Ka))),(5,.tip 0),(8,.code (So Kc)),(9,.code (So Kc))],Bx:=[],Sg:=[⟨(R.Pq Kb Ka),75,true⟩]}
def ZgJ (a:QT33):RT (Option (Go1 (QT33))):=
 let x1:List (Int×Int):=a.2.2.2.2.1++[(u16.wrap (a.1+u16.wrap a.2.2.2.1),R.get Ka a.2.1 a.2.2.2.1)]
 let x2:= !Zf a.2.2.2.1 (Le a.2.1)||Nat.ble (Le x1) most
 .br (decide (a.2.2.2.1<a.2.2.1)) (.br (!x2||Zf a.2.2.2.1 (Le a.2.1)) (.br (x2) (Ls (Go1.cont (a.1,a.2.1,a.2.2.1,i64.wrap (a.2.2.2.1+1),x1,PUnit.unit))) Ln) Ln) (Ls (Go1.brk (a.1,a.2.1,a.2.2.1,a.2.2.2.1,a.2.2.2.2.1,PUnit.unit)))
def Zxr:Ora:=ZaY false ZLo ZgJ (λa=>1000000000000)
theorem ZAp:ZaB (envX prog [(93,ZAn)] [] 127 8) (.block 0 (.loop (ZX Tryz.f59.body 0))) Zxr:=
 loopP ⟨ZwL,Tv⟩
def Znr (t:Int) (b:List Int):RT (Option (List (Int×Int))):=
 let x1:=runF false ZgJ (λa=>1000000000000) (t,b,iN (Le b),0,[],())
 let x2:List (Int×Int):=(getO (false,t,b,iN (Le b),0,[],()) x1).2.2.2.2.2.1
 .br (okB x1) (.br (Znq x2) (Ls (Stg.l (newG ZcR Zsc (ZwN x2)))) Ln) Ln
def ZLp (t:Int) (b:List Int):List (Int×Int):=getO [] (Znr t b).val
def ZAq (t:Int) (b:List Int):Bool:=okB (Znr t b).val
theorem ZG7:Zb prog 59 (newE ZcR Zsc ZsY (λa=>some (ZAq a.1 a.2)) (λa=>ZLp a.1 a.2)):=
 Zml (P:=prog) (n:=127) (k:=8) (l:=[(93,ZAn)]) (ol:=[(0,Zxr)]) ⟨ZwL,Tv⟩ Tryz.func59 rfl (by kernel_rfl) Tryz.call59 ⟨ZAp,Tv⟩ (r:=ZcR) (T:=Zsc) (ts:=ZsY) (t:=λa=>Znr a.1 a.2) (λa=>by kernel_rfl)
end
end Go.Proofs.YtpnjbfjomebppaaGreat
open Go Go.S3 Go.Proofs Go.Proofs.Cells
namespace Go.Proofs.YtpnjbfjomebppaaGreat
noncomputable section
theorem ZKT (m:List Cell) (c:Cell) (hv:Vld m) (hm:m.length+1<=most):ZEm m c=true/\ZRj m c=putX m c:=by have h:=Zwv m c hv hm;have e:ZEj m c=Zq4 m c:=rfl;simp only[ZwH,ZLj,<-e] at h;exact h
theorem ZGZ (l:List Cell) (hl:l.length+1<=most):Znq l=true/\ZwN l=normX l:=by
 have hms:=mst;have hs:smC l=true:=(Zm5.2 hl:sm l=true);have hv:(Zks l).val=some (normX l):=by
  cases hb:vldB l with
  |true=>
   have e:Nat.ble l.length most=true:=by rw[YG];omega
   simp only[Zks,RT.val,hs,hb,List.nil_append,e,Ya,Yf,Yj,Zhz (ZiG.1 hb)]
  |false=>
   obtain⟨r,hr,h1,i,hR⟩:=ZA (fl:=false) (t:=ZgI) (fuel:=λa=>1000000000000)
    (λa=>∃i:Nat,i<=l.length/\a=(l,(l.length:Int),(i:Int),normX (l.take i),()))
    (λa=>Int.toNat (a.2.1-a.2.2.1)) (λr=>r.1=false/\∃i:Nat,r.2=(l,(l.length:Int),(i:Int),normX l,()))
    (by
     rintro a ⟨i,hi,rfl⟩;by_cases hlt:i<l.length
     ·left;have d:decide ((i:Int)<(l.length:Int))=true:=by simpa using hlt
      have r1:=ZaG l i hlt;have hlen:=Zcx (l.take i);rw[YF] at hlen;have hp:=ZKT (normX (l.take i)) (el l i) (Zfn _) (by omega);refine⟨_,?_,⟨i+1,hlt,rfl⟩,by simp only;omega⟩;rw[ZzO l i hlt,ZkK];simp only[ZgI,RT.val,d,r1,ZcB,hp.1,hp.2,Ya,Yi,ZhO i (by omega)]
     ·right;left;have d:decide ((i:Int)<(l.length:Int))=false:=by simpa using hlt
      have e:l.take i=l:=Y2 (by omega);rw[e]
      exact⟨_,by simp only[ZgI,RT.val,d,Yb],rfl,i,rfl⟩)
    (l,iN l.length,0,[],()) ⟨0,Yr _,rfl⟩ (by simp only[iN,Le];omega)
   obtain⟨r1,r2⟩:=r;simp only at h1 hR;subst h1 hR;simp only[Zks,RT.val,hs,hb,hr,okB,getO,Ya,Yb,Yl,Yv]
 exact⟨by simp only[Znq,hv];rfl,by simp only[ZwN,hv,getO]⟩
theorem ZG0 (t:Int) (b:List Int) (hb:b.length+1<=most):ZAq t b=true/\ZLp t b=Zps t b:=by
 have hms:=mst;obtain⟨r,hr,h1,hR⟩:=ZA (fl:=false) (t:=ZgJ) (fuel:=λa=>1000000000000)
  (λa=>∃i:Nat,i<=b.length/\a=(t,b,(b.length:Int),(i:Int),Zpu t b i,()))
  (λa=>Int.toNat (a.2.2.1-a.2.2.2.1)) (λr=>r.1=false/\r.2=(t,b,(b.length:Int),(b.length:Int),Zpu t b b.length,()))
  (by
   rintro a ⟨i,hi,rfl⟩;by_cases hlt:i<b.length
   ·left;have d:decide ((i:Int)<(b.length:Int))=true:=by simpa using hlt
    have r1:=ZaG b i hlt;have hl:∀x:Cell,Nat.ble (Zpu t b i++[x]).length most=true:=λx=>by rw[YG,Yd,Zpt];simp only[List.length_singleton];omega
    refine⟨_,?_,⟨i+1,hlt,rfl⟩,by simp only;omega⟩;rw[ZIM];have g:=get_d b i;simp only[ZgJ,RT.val,d,r1,g,hl,Ya,Yf,Yj,ZhO i (by omega)]
   ·right;left;have d:decide ((i:Int)<(b.length:Int))=false:=by simpa using hlt
    have e:i=b.length:=by omega
    subst e
    exact⟨_,by simp only[ZgJ,RT.val,d,Yb],rfl,rfl⟩)
  (t,b,iN b.length,0,[],()) ⟨0,Yr _,rfl⟩ (by simp only[iN,Le];omega)
 obtain⟨r1,r2⟩:=r;simp only at h1 hR;subst h1 hR;have hn:=ZGZ (Zpu t b b.length) (by rw[Zpt];exact hb);have hv:(Znr t b).val=some (Zps t b):=by simp only[Znr,RT.val,hr,okB,getO,Ya,hn.1,hn.2,Zps]
 exact⟨by simp only[ZAq,hv];rfl,by simp only[ZLp,hv,getO]⟩
def Zl5:En:=frzE (newE ZcR Zsc ZsY (λa=>some (smB a.2)) (λa=>Zps a.1 a.2))
theorem Zkt:Zb Tryz.prog 59 Zl5:=Zy4 (ZIv ZG7 λa _ h=>by
 have hb:smB a.2=true:=by cases hq:smB a.2 with
  |true=>rfl
  |false=>rw[hq] at h;exact absurd rfl h
 obtain⟨h1,h2⟩:=ZG0 a.1 a.2 (Zm5.1 hb)
 exact⟨by rw[h1];simp,h2⟩)
def ZFU (s:List Int×Int):RT (Option (Bool×List Int×Int)):=
 .br (Zl s 2) (Ls (((Za s 2).1==1,(Za s 2).2))) Ln
def Zam (s:List Int×Int):Bool×List Int×Int:=getO (Zn6.Df,ZCB.Df) (ZFU s).val
def Zbu (s:List Int×Int):Bool:=okB (ZFU s).val
def ZUt:En:=boxE ZCB Zxw Zn6 (λa=>some (Zbu a.1)) (λa=>Zam a.1)
theorem ZSA:Zb prog 69 ZUt:=
 Zcm (P:=prog) (n:=7) (k:=8) (l:=[(68,Zcy)]) (ol:=[]) ⟨ZaM,Tv⟩ Tryz.func69 rfl (by kernel_rfl) Tryz.call69 trivial (rb:=ZCB) (ts:=Zxw) (rs:=Zn6) (t:=λa=>ZFU a.1) (λa=>by kernel_rfl)
abbrev Zd7:R:=R.Pq Kb (R.Pq Kb (R.Pq R.bool Kc))
abbrev Zd8:Nat:=110
def ZCx:LS:={n:=44,Sl:=[(0,.fix (A.loc 0 0)),(5,.tip 0),(6,.code (So Kc))],Bx:=[[.many (R.Pq (R.sl Kc) Kc)]],Sg:=[⟨(R.Pq Kb (R.Pq Kb (R.Pq R.bool Kc))),110,false⟩]}
def Zb3 (a:QT24):RT (Option (Go1 (QT24))):=
 let x1:= !Zl (ZaX a.2.1).2 6||Zf (Za (ZaX a.2.1).2 6).1 (Le [0,3,15,255,4095,65535])
 let x2:= !x1
 let x3:= !Zl (Za (Za (ZaX a.2.1).2 6).2 3).2 5
 let x4:Int:=(Za (Za (Za (ZaX a.2.1).2 6).2 3).2 5).1
 let x5:=Zf x4 (Le [0,0,1,2,5])
 let x6:=i64.wrap (i64.wrap (ZaX a.2.1).1+R.get Kc [0,3,15,255,4095,65535] (Za (ZaX a.2.1).2 6).1)
 let x7:List (QT4):=a.2.2.1++[((ZaX a.2.1).1,u16.wrap (if 65535<x6 then 65535 else x6),decide ((Za (Za (ZaX a.2.1).2 6).2 3).1>0),R.get Kc [0,0,1,2,5] x4)]
 let x8:= !Zl (Za (ZaX a.2.1).2 6).2 3||(x3||(!x5||Nat.ble (Le x7) most))
 let x9:= !x8
 let x10:= !Zl (Za (ZaX a.2.1).2 6).2 3||(x3||x5)
 let x11:= !x10
 let x12:= !Zl (Za (ZaX a.2.1).2 6).2 3||Zl (Za (Za (ZaX a.2.1).2 6).2 3).2 5
 .br (decide (a.1>0)) (.br (!Zgg a.2.1||(x2||(!Zl (ZaX a.2.1).2 6||(x9||(x11||(!x12||Zl (Za (ZaX a.2.1).2 6).2 3)))))) (.br (!Zgg a.2.1||(x2||(!Zl (ZaX a.2.1).2 6||(x9||(x11||x12))))) (.br (!Zgg a.2.1||(x2||(!Zl (ZaX a.2.1).2 6||(x9||x10)))) (.br (!Zgg a.2.1||(x2||(!Zl (ZaX a.2.1).2 6||x8))) (.br (!Zgg a.2.1||(x2||Zl (ZaX a.2.1).2 6)) (.br (!Zgg a.2.1||x1) (.br (Zgg a.2.1) (Ls (Go1.cont (i64.wrap (a.1-1),(Za (Za (Za (ZaX a.2.1).2 6).2 3).2 5).2,x7,PUnit.unit))) Ln) Ln) Ln) Ln) Ln) Ln) Ln) (Ls (Go1.brk (a.1,a.2.1,a.2.2.1,PUnit.unit)))
def Zo0:Ora:=ZaY false ZCx Zb3 (λa=>400)
theorem ZuV:ZaB (envX prog [(68,Zcy),(70,ZOm)] [] 511 8) (.block 0 (.loop (ZX Tryz.f188.body 0))) Zo0:=
 loopP ⟨ZaM,ZFP,Tv⟩
def Zet (s:List Int×Int) (n:Int):RT (Option (List (QT4)×List Int×Int)):=
 let x1:QT24:=((Za s (i64.wrap (n+1))).1,(Za s (i64.wrap (n+1))).2,[],())
 let x2:=runF false Zb3 (λa=>400) x1
 let x3:(List Int×Int)×List (QT4)×PUnit:=(getO (false,x1) x2).2.2
 .br (Zl s (i64.wrap (n+1))) (.br (okB x2) (Ls ((x3.2.1,x3.1))) Ln) Ln
def ZZ (s:List Int×Int) (n:Int):List (QT4)×List Int×Int:=getO ([],ZCB.Df) (Zet s n).val
def Zb4 (s:List Int×Int) (n:Int):Bool:=okB (Zet s n).val
def Zyp:En:=frzE (ZIx ZCB Zd7 Zd8 ZxT (λa=>some (Zb4 a.1 a.2)) (λa=>ZZ a.1 a.2))
theorem Zyq:Zb prog 188 (ZIx ZCB Zd7 Zd8 ZxT (λa=>some (Zb4 a.1 a.2)) (λa=>ZZ a.1 a.2)):=
 ZOk (P:=prog) (n:=511) (k:=8) (l:=[(68,Zcy),(70,ZOm)]) (ol:=[(0,Zo0)]) ⟨ZaM,ZFP,Tv⟩ Tryz.func188 rfl (by kernel_rfl) Tryz.call188 ⟨ZuV,Tv⟩ (rb:=ZCB) (r:=Zd7) (T:=Zd8) (ts:=ZxT) (t:=λa=>Zet a.1 a.2) (λa=>by kernel_rfl)
theorem ZCv:Zb prog 188 Zyp:=Zy4 Zyq
abbrev ZOp:Rs:=Rs.one (So rcRG)
def ZCD (s:List Int×Int):RT (Option (List (QT4)×List Int×Int)):=
 let x1:List (QT4):=Stg.l (newG Zd7 Zd8 (ZZ s 2).1)++[(0,65535,true,i64.wrap (Int.tdiv (Za (ZZ s 2).2 3).1 2))]
 .br (!Zb4 s 2||(!Zl (ZZ s 2).2 3||Nat.ble (Le x1) most)) (.br (!Zb4 s 2||Zl (ZZ s 2).2 3) (.br (Zb4 s 2) (Ls ((x1,(Za (ZZ s 2).2 3).2))) Ln) Ln) Ln
def nMap (s:List Int×Int):List (QT4)×List Int×Int:=getO (ZOp.Df,ZCB.Df) (ZCD s).val
def ZIA (s:List Int×Int):Bool:=okB (ZCD s).val
def ZW7:En:=boxE ZCB Zxw ZOp (λa=>some (ZIA a.1)) (λa=>nMap a.1)
theorem ZOo:Zb prog 123 ZW7:=
 Zcm (P:=prog) (n:=7) (k:=8) (l:=[(68,Zcy),(188,Zyp)]) (ol:=[]) ⟨ZaM,ZCv,Tv⟩ Tryz.func123 rfl (by kernel_rfl) Tryz.call123 trivial (rb:=ZCB) (ts:=Zxw) (rs:=ZOp) (t:=λa=>ZCD a.1) (λa=>by kernel_rfl)
def ZCz:LS:={n:=75,Sl:=[(0,.fix (A.loc 0 0)),(5,.tip 0),(6,.code (So Kc))],Bx:=[[.many (R.Pq (R.sl Kc) Kc)]],Sg:=[⟨Ka,5,true⟩]}
def Zdk (a:QT31):RT (Option (Go1 (QT31))):=
 let x1:=Zf (Za (Za a.2.1 8).2 4).1 (Le [33,49,1,17])
 let x2:= !x1
 let x3:=Zl (Za (Za (Za a.2.1 8).2 4).2 256).2 4
 let x4:= !x3
 let x5:=Za (Za (Za (Za a.2.1 8).2 4).2 256).2 4
 let x6:=x5.1
 let x7:=Zf x6 (Le [0,0,1,255])
 let x8:List Int:=a.2.2.1++[R.get Ka [33,49,1,17] (Za (Za a.2.1 8).2 4).1,u8.wrap (Za (Za (Za a.2.1 8).2 4).2 256).1,R.get Ka [0,0,1,255] x6]
 let x9:= !(Za a.2.1 8).1==0||(!Zl (Za a.2.1 8).2 4||(x2||(!Zl (Za (Za a.2.1 8).2 4).2 256||(x4||(!x7||Nat.ble (Le x8) most)))))
 let x10:= !x9
 let x11:= !(Za a.2.1 8).1==0||(!Zl (Za a.2.1 8).2 4||(x2||(!Zl (Za (Za a.2.1 8).2 4).2 256||(x4||x7))))
 let x12:= !x11
 let x13:= !(Za a.2.1 8).1==0||(!Zl (Za a.2.1 8).2 4||(x2||(!Zl (Za (Za a.2.1 8).2 4).2 256||x3)))
 let x14:= !x13
 let x15:= !(Za a.2.1 8).1==0||(!Zl (Za a.2.1 8).2 4||(x2||Zl (Za (Za a.2.1 8).2 4).2 256))
 let x16:= !x15
 let x17:= !(Za a.2.1 8).1==0||(!Zl (Za a.2.1 8).2 4||x1)
 let x18:= !x17
 let x19:= !(Za a.2.1 8).1==0||Zl (Za a.2.1 8).2 4
 let x20:= !x19
 let x21:List Int:=a.2.2.1++[62,(Zc6 (Za a.2.1 8).2).1,211,u8.wrap (Za (Zc6 (Za a.2.1 8).2).2 8).1]
 let x22:=(Za a.2.1 8).1==0||(!(Za a.2.1 8).1==1||(!ZgX (Za a.2.1 8).2||(!Zl (Zc6 (Za a.2.1 8).2).2 8||Nat.ble (Le x21) most)))
 let x23:= !x22
 let x24:=(Za a.2.1 8).1==0||(!(Za a.2.1 8).1==1||(!ZgX (Za a.2.1 8).2||Zl (Zc6 (Za a.2.1 8).2).2 8))
 let x25:= !x24
 let x26:=(Za a.2.1 8).1==0||(!(Za a.2.1 8).1==1||ZgX (Za a.2.1 8).2)
 let x27:= !x26
 let x28:=(Za a.2.1 8).1==0||((Za a.2.1 8).1==1||(!(Za a.2.1 8).1==2||Nat.ble (Le (a.2.2.1++[251])) most))
 let x29:= !x28
 let x30:List Int:=a.2.2.1++[62,u8.wrap (i64.wrap (16+(Za (Za a.2.1 8).2 16).1)),211,0,62,(Zc6 (Za (Za a.2.1 8).2 16).2).1,211,1,62,0,211,1]
 let x31:=(Za a.2.1 8).1==0||((Za a.2.1 8).1==1||((Za a.2.1 8).1==2||(!(Za a.2.1 8).1==3||(!Zl (Za a.2.1 8).2 16||(!ZgX (Za (Za a.2.1 8).2 16).2||Nat.ble (Le x30) most)))))
 let x32:= !x31
 let x33:=(Za a.2.1 8).1==0||((Za a.2.1 8).1==1||((Za a.2.1 8).1==2||(!(Za a.2.1 8).1==3||(!Zl (Za a.2.1 8).2 16||ZgX (Za (Za a.2.1 8).2 16).2))))
 let x34:= !x33
 let x35:=(Za a.2.1 8).1==0||((Za a.2.1 8).1==1||((Za a.2.1 8).1==2||(!(Za a.2.1 8).1==3||Zl (Za a.2.1 8).2 16)))
 let x36:= !x35
 let x37:= !Zl (Za (Zap (Za a.2.1 8).2).2 64).2 4
 let x38:Int:=(Za (Za (Zap (Za a.2.1 8).2).2 64).2 4).1
 let x39:=Zf x38 (Le [0,0,1,255])
 let x40:List Int:=a.2.2.1++[(Zap (Za a.2.1 8).2).1,u8.wrap (Za (Zap (Za a.2.1 8).2).2 64).1,R.get Ka [0,0,1,255] x38]
 let x41:=(Za a.2.1 8).1==0||((Za a.2.1 8).1==1||((Za a.2.1 8).1==2||((Za a.2.1 8).1==3||(!Zch (Za a.2.1 8).2||(!Zl (Zap (Za a.2.1 8).2).2 64||(x37||(!x39||Nat.ble (Le x40) most)))))))
 let x42:= !x41
 let x43:=(Za a.2.1 8).1==0||((Za a.2.1 8).1==1||((Za a.2.1 8).1==2||((Za a.2.1 8).1==3||(!Zch (Za a.2.1 8).2||(!Zl (Zap (Za a.2.1 8).2).2 64||(x37||x39))))))
 let x44:= !x43
 let x45:=(Za a.2.1 8).1==0||((Za a.2.1 8).1==1||((Za a.2.1 8).1==2||((Za a.2.1 8).1==3||(!Zch (Za a.2.1 8).2||(!Zl (Zap (Za a.2.1 8).2).2 64||Zl (Za (Zap (Za a.2.1 8).2).2 64).2 4)))))
 let x46:= !x45
 let x47:=(Za a.2.1 8).1==0||((Za a.2.1 8).1==1||((Za a.2.1 8).1==2||((Za a.2.1 8).1==3||(!Zch (Za a.2.1 8).2||Zl (Zap (Za a.2.1 8).2).2 64))))
 let x48:=x10||(x12||(x14||(x16||(x18||(x20||(x23||(x25||(x27||(x29||(x32||(x34||(x36||(x42||(x44||(x46||(!x47||((Za a.2.1 8).1==0||((Za a.2.1 8).1==1||((Za a.2.1 8).1==2||((Za a.2.1 8).1==3||Zch (Za a.2.1 8).2))))))))))))))))))))
 let x49:= !x48
 let x50:=x10||(x12||(x14||(x16||(x18||(x20||(x23||(x25||(x27||(x29||(x32||(x34||(x36||(x42||(x44||(x46||x47)))))))))))))))
 let x51:= !x50
 let x52:=x10||(x12||(x14||(x16||(x18||(x20||(x23||(x25||(x27||(x29||(x32||(x34||(x36||(x42||(x44||x45))))))))))))))
 let x53:= !x52
 let x54:=x10||(x12||(x14||(x16||(x18||(x20||(x23||(x25||(x27||(x29||(x32||(x34||(x36||(x42||x43)))))))))))))
 let x55:= !x54
 let x56:=x10||(x12||(x14||(x16||(x18||(x20||(x23||(x25||(x27||(x29||(x32||(x34||(x36||x41))))))))))))
 let x57:= !x56
 let x58:=x10||(x12||(x14||(x16||(x18||(x20||(x23||(x25||(x27||(x29||(x32||(x34||x35)))))))))))
 let x59:= !x58
 let x60:=x10||(x12||(x14||(x16||(x18||(x20||(x23||(x25||(x27||(x29||(x32||x33))))))))))
 let x61:= !x60
 let x62:=x10||(x12||(x14||(x16||(x18||(x20||(x23||(x25||(x27||(x29||x31)))))))))
 let x63:= !x62
 let x64:=x10||(x12||(x14||(x16||(x18||(x20||(x23||(x25||(x27||x28))))))))
 let x65:= !x64
 let x66:=x10||(x12||(x14||(x16||(x18||(x20||(x23||(x25||x26)))))))
 let x67:= !x66
 let x68:=x10||(x12||(x14||(x16||(x18||(x20||(x23||x24))))))
 let x69:= !x68
 let x70:=x10||(x12||(x14||(x16||(x18||(x20||x22)))))
 let x71:= !x70
 let x72:=x10||(x12||(x14||(x16||(x18||x19))))
 let x73:= !x72
 let x74:=x10||(x12||(x14||(x16||x17)))
 let x75:= !x74
 let x76:=x10||(x12||(x14||x15))
 let x77:= !x76
 let x78:=x10||(x12||x13)
 let x79:= !x78
 let x80:=x10||x11
 let x81:List Int×Int:=(Za (Za (Zap (Za a.2.1 8).2).2 64).2 4).2
 .br (decide (a.1>0)) (.br (!Zl a.2.1 8||(x49||(x51||(x53||(x55||(x57||(x59||(x61||(x63||(x65||(x67||(x69||(x71||(x73||(x75||(x77||(x79||(!x80||x9)))))))))))))))))) (.br (!Zl a.2.1 8||(x49||(x51||(x53||(x55||(x57||(x59||(x61||(x63||(x65||(x67||(x69||(x71||(x73||(x75||(x77||(x79||x80))))))))))))))))) (.br (!Zl a.2.1 8||(x49||(x51||(x53||(x55||(x57||(x59||(x61||(x63||(x65||(x67||(x69||(x71||(x73||(x75||(x77||x78)))))))))))))))) (.br (!Zl a.2.1 8||(x49||(x51||(x53||(x55||(x57||(x59||(x61||(x63||(x65||(x67||(x69||(x71||(x73||(x75||x76))))))))))))))) (.br (!Zl a.2.1 8||(x49||(x51||(x53||(x55||(x57||(x59||(x61||(x63||(x65||(x67||(x69||(x71||(x73||x74)))))))))))))) (.br (!Zl a.2.1 8||(x49||(x51||(x53||(x55||(x57||(x59||(x61||(x63||(x65||(x67||(x69||(x71||x72))))))))))))) (.br (!Zl a.2.1 8||(x49||(x51||(x53||(x55||(x57||(x59||(x61||(x63||(x65||(x67||(x69||x70)))))))))))) (.br (!Zl a.2.1 8||(x49||(x51||(x53||(x55||(x57||(x59||(x61||(x63||(x65||(x67||x68))))))))))) (.br (!Zl a.2.1 8||(x49||(x51||(x53||(x55||(x57||(x59||(x61||(x63||(x65||x66)))))))))) (.br (!Zl a.2.1 8||(x49||(x51||(x53||(x55||(x57||(x59||(x61||(x63||x64))))))))) (.br (!Zl a.2.1 8||(x49||(x51||(x53||(x55||(x57||(x59||(x61||x62)))))))) (.br (!Zl a.2.1 8||(x49||(x51||(x53||(x55||(x57||(x59||x60))))))) (.br (!Zl a.2.1 8||(x49||(x51||(x53||(x55||(x57||x58)))))) (.br (!Zl a.2.1 8||(x49||(x51||(x53||(x55||x56))))) (.br (!Zl a.2.1 8||(x49||(x51||(x53||x54)))) (.br (!Zl a.2.1 8||(x49||(x51||x52))) (.br (!Zl a.2.1 8||(x49||x50)) (.br (!Zl a.2.1 8||x48) (.br (Zl a.2.1 8) (.br ((Za a.2.1 8).1==0) (Ls (Go1.cont (i64.wrap (a.1-1),x5.2,x8,PUnit.unit))) (.br ((Za a.2.1 8).1==1) (Ls (Go1.cont (i64.wrap (a.1-1),(Za (Zc6 (Za a.2.1 8).2).2 8).2,x21,PUnit.unit))) (.br ((Za a.2.1 8).1==2) (Ls (Go1.cont (i64.wrap (a.1-1),(Za a.2.1 8).2,a.2.2.1++[251],PUnit.unit))) (Ls (Go1.cont (i64.wrap (a.1-1),(bif (Za a.2.1 8).1==3 then (Zc6 (Za (Za a.2.1 8).2 16).2).2.1 else x81.1,bif (Za a.2.1 8).1==3 then (Zc6 (Za (Za a.2.1 8).2 16).2).2.2 else x81.2),bif (Za a.2.1 8).1==3 then x30 else x40,PUnit.unit)))))) Ln) Ln) Ln) Ln) Ln) Ln) Ln) Ln) Ln) Ln) Ln) Ln) Ln) Ln) Ln) Ln) Ln) Ln) Ln) (Ls (Go1.brk (a.1,a.2.1,a.2.2.1,PUnit.unit)))
def Zo2:Ora:=ZaY false ZCz Zdk (λa=>400)
theorem ZuW:ZaB (envX prog [(68,Zcy),(71,Zyw),(119,ZhC)] [] 9511883889056940159 8) (.block 0 (.loop (ZX Tryz.f124.body 0))) Zo2:=
 loopP ⟨ZaM,Zmn,Zfo,Tv⟩
def ZgV (s:List Int×Int) (n:Int):RT (Option (List Int×List Int×Int)):=
 let x1:QT31:=((Za s (i64.wrap (n+1))).1,(Za s (i64.wrap (n+1))).2,[],())
 let x2:=runF false Zdk (λa=>400) x1
 let x3:(List Int×Int)×List Int×PUnit:=(getO (false,x1) x2).2.2
 .br (Zl s (i64.wrap (n+1))) (.br (okB x2) (Ls ((x3.2.1,x3.1))) Ln) Ln
def Zcg (s:List Int×Int) (n:Int):List Int×List Int×Int:=getO (ZJu.Df,ZCB.Df) (ZgV s n).val
def ZgW (s:List Int×Int) (n:Int):Bool:=okB (ZgV s n).val
def Zo3:En:=boxE ZCB ZxT ZJu (λa=>some (ZgW a.1 a.2)) (λa=>Zcg a.1 a.2)
theorem Zo1:Zb prog 124 Zo3:=
 Zcm (P:=prog) (n:=9511883889056940159) (k:=8) (l:=[(68,Zcy),(71,Zyw),(119,ZhC)]) (ol:=[(0,Zo2)]) ⟨ZaM,Zmn,Zfo,Tv⟩ Tryz.func124 rfl (by kernel_rfl) Tryz.call124 ⟨ZuW,Tv⟩ (rb:=ZCB) (ts:=ZxT) (rs:=ZJu) (t:=λa=>ZgV a.1 a.2) (λa=>by kernel_rfl)
abbrev ZuZ:Rs:=Rs.one (Sh.agg (R.Pq Kc (R.Pq rcRG (R.Pq Kc (R.Pq Ka (R.Pq Ka (R.Pq R.bool rcCE)))))))
def ZOx:LS:={n:=50,Sl:=[(0,.fix (A.loc 0 0)),(2,.fix (A.loc 1 0)),(3,.fix (A.loc 2 0)),(4,.tip 0),(5,.code (So Kc))],Bx:=[[.many (R.Pq (R.sl Kc) Kc)],[.many (R.Pq Kc (R.Pq rcRG (R.Pq Kc (R.Pq Ka (R.Pq Ka (R.Pq R.bool rcCE))))))],[.many (R.Pq Kc (R.Pq rcRG (R.Pq Kc (R.Pq Ka (R.Pq Ka (R.Pq R.bool rcCE))))))]],Sg:=[⟨R.Pq Kb Ka,75,true⟩]}
def Zfq (a:QT23):RT (Option (Go1 (QT23))):=
 let x1:=Zf (Za a.2.1 6).1 (Le [36,60,52,44,56,32])
 let x2:= !x1
 let x3:List Int:=[(Zap (Za a.2.1 6).2).1,251,201]
 let x4:=smB x3
 let x5:List (Int×Int):=a.2.2.2.2.1++Stg.l (newG ZcR Zsc (Zps (u16.wrap (R.get Kc [36,60,52,44,56,32] (Za a.2.1 6).1)) x3))
 let x6:= !Zl a.2.1 6||(x2||(!Zch (Za a.2.1 6).2||(!x4||Nat.ble (Le x5) most)))
 let x7:= !x6
 let x8:= !Zl a.2.1 6||(x2||(!Zch (Za a.2.1 6).2||x4))
 let x9:= !x8
 let x10:= !Zl a.2.1 6||(x2||Zch (Za a.2.1 6).2)
 let x11:= !x10
 let x12:= !Zl a.2.1 6||x1
 .br (decide (a.1>0)) (.br (x7||(x9||(x11||(!x12||Zl a.2.1 6)))) (.br (x7||(x9||(x11||x12))) (.br (x7||(x9||x10)) (.br (x7||x8) (.br (x6) (Ls (Go1.cont (i64.wrap (a.1-1),(Zap (Za a.2.1 6).2).2,a.2.2.1,a.2.2.2.1,x5,PUnit.unit))) Ln) Ln) Ln) Ln) Ln) (Ls (Go1.brk (a.1,a.2.1,a.2.2.1,a.2.2.2.1,a.2.2.2.2.1,PUnit.unit)))
def Zyy:Ora:=ZaY false ZOx Zfq (λa=>400)
theorem ZCK:ZaB (envX prog [(59,Zl5),(68,Zcy),(71,Zyw),(93,ZAo),(119,ZhC),(122,ZOu),(123,ZW7),(124,Zo3)] [] 63 8) (.block 0 (.loop (ZX Tryz.f66.body 0))) Zyy:=
 loopP ⟨Zkt,ZaM,Zmn,ZwO,Zfo,ZFV,ZOo,Zo1,Tv⟩
def Zpe (s:List Int×Int):RT (Option (BRDT×List Int×Int)):=
 let x1:=(Za (Za (Za (nMap (Za6 s).2).2 3).2 4).2 6).1==0
 let x2:= !x1
 let x3:List Int×Int:=(Za (Za (Za (nMap (Za6 s).2).2 3).2 4).2 6).2
 let x4:=ZgX x3
 let x5:=Zc6 x3
 let x6:=x5.2
 let x7:=Zc6 x6
 let x8:=x7.2
 let x9:List Int×Int:=(bif x1 then x8.1 else x3.1,bif x1 then x8.2 else x3.2)
 let x10:=ZgW x9 12
 let x11:=Zcg x9 12
 let x12:=x11.1
 let x13:=x11.2
 let x14:=Za x13 4
 let x15:QT23:=(x14.1,x14.2,(0,[],0,0,0,false,[]),((Za6 s).1,(nMap (Za6 s).2).1,(Za (nMap (Za6 s).2).2 3).1,bif x1 then x5.1 else 0,bif x1 then x7.1 else 4,(Za (Za (nMap (Za6 s).2).2 3).2 4).1==0,[]),Stg.l (newG ZcR Zsc (Zps 0 x12)),())
 let x16:=runF false Zfq (λa=>400) x15
 let x17:(List Int×Int)×BRDT×BRDT×List (Int×Int)×PUnit:=(getO (false,x15) x16).2.2
 let x18:=x17.2.2
 let x19:=x18.2.1
 let x20:=x18.1
 let x21:=x20.2
 let x22:=x21.2
 let x23:=x22.2
 let x24:=x23.2
 .br (!Zpc s||(!ZIA (Za6 s).2||(!Zl (nMap (Za6 s).2).2 3||Zl (Za (nMap (Za6 s).2).2 3).2 4))) (.br (!Zpc s||(!ZIA (Za6 s).2||Zl (nMap (Za6 s).2).2 3)) (.br (!Zpc s||ZIA (Za6 s).2) (.br (Zpc s) (.br (Zl (Za (Za (nMap (Za6 s).2).2 3).2 4).2 6) (.br (x2||(!x4||ZgX x6)) (.br (x2||x4) (.br (!x10||smB x12) (.br (x10) (.br (Zl x13 4) (.br (okB x16) (.br (smC x19) (Ls (((x20.1,x21.1,x22.1,x23.1,x24.1,x24.2.1,Cells.normX x19),x17.1))) Ln) Ln) Ln) Ln) Ln) Ln) Ln) Ln) Ln) Ln) Ln) Ln
def Zcz (s:List Int×Int):BRDT×List Int×Int:=getO (ZuZ.Df,ZCB.Df) (Zpe s).val
def Zpf (s:List Int×Int):Bool:=okB (Zpe s).val
def ZOy:En:=boxE ZCB Zxw ZuZ (λa=>some (Zpf a.1)) (λa=>Zcz a.1)
theorem ZOw:Zb prog 66 ZOy:=
 Zcm (P:=prog) (n:=63) (k:=8) (l:=[(59,Zl5),(68,Zcy),(71,Zyw),(93,ZAo),(119,ZhC),(122,ZOu),(123,ZW7),(124,Zo3)]) (ol:=[(0,Zyy)]) ⟨Zkt,ZaM,Zmn,ZwO,Zfo,ZFV,ZOo,Zo1,Tv⟩ Tryz.func66 rfl (by kernel_rfl) Tryz.call66 ⟨ZCK,Tv⟩ (rb:=ZCB) (ts:=Zxw) (rs:=ZuZ) (t:=λa=>Zpe a.1) (λa=>by kernel_rfl)
def Zpa (s:List Int×Int):RT (Option (INPT×List Int×Int)):=
 let x1:=decide ((Za s 64).1<30)||(decide ((Za s 64).1<36)||(decide ((Za s 64).1<40)||(!decide ((Za s 64).1<46)||Zl (Za s 64).2 256)))
 let x2:= !x1
 let x3:=decide ((Za s 64).1<30)||(decide ((Za s 64).1<36)||(decide ((Za s 64).1<40)||(decide ((Za s 64).1<46)||(decide ((Za s 64).1<50)||(decide ((Za s 64).1<53)||(decide ((Za s 64).1<55)||((Za s 64).1==55||(!decide ((Za s 64).1<60)||Zch (Za s 64).2))))))))
 let x4:= !x3
 let x5:= !Zbu (Zam (Zam (Zam (Zam (Za s 64).2).2).2).2).2
 let x6:List Int×Int:=(Zam (Zam (Zam (Zam (Zam (Za s 64).2).2).2).2).2).2
 let x7:=Zl x6 256
 let x8:=Za x6 256
 let x9:=x8.2
 let x10:=decide ((Za s 64).1<30)||(decide ((Za s 64).1<36)||(decide ((Za s 64).1<40)||(decide ((Za s 64).1<46)||(decide ((Za s 64).1<50)||(decide ((Za s 64).1<53)||(decide ((Za s 64).1<55)||((Za s 64).1==55||(decide ((Za s 64).1<60)||(!Zbu (Za s 64).2||(!Zbu (Zam (Za s 64).2).2||(!Zbu (Zam (Zam (Za s 64).2).2).2||(!Zbu (Zam (Zam (Zam (Za s 64).2).2).2).2||(x5||(!x7||Zl x9 256))))))))))))))
 let x11:= !x10
 let x12:=decide ((Za s 64).1<30)||(decide ((Za s 64).1<36)||(decide ((Za s 64).1<40)||(decide ((Za s 64).1<46)||(decide ((Za s 64).1<50)||(decide ((Za s 64).1<53)||(decide ((Za s 64).1<55)||((Za s 64).1==55||(decide ((Za s 64).1<60)||(!Zbu (Za s 64).2||(!Zbu (Zam (Za s 64).2).2||(!Zbu (Zam (Zam (Za s 64).2).2).2||(!Zbu (Zam (Zam (Zam (Za s 64).2).2).2).2||(x5||x7)))))))))))))
 let x13:= !x12
 let x14:=decide ((Za s 64).1<30)||(decide ((Za s 64).1<36)||(decide ((Za s 64).1<40)||(decide ((Za s 64).1<46)||(decide ((Za s 64).1<50)||(decide ((Za s 64).1<53)||(decide ((Za s 64).1<55)||((Za s 64).1==55||(decide ((Za s 64).1<60)||(!Zbu (Za s 64).2||(!Zbu (Zam (Za s 64).2).2||(!Zbu (Zam (Zam (Za s 64).2).2).2||(!Zbu (Zam (Zam (Zam (Za s 64).2).2).2).2||Zbu (Zam (Zam (Zam (Zam (Za s 64).2).2).2).2).2))))))))))))
 let x15:= !x14
 let x16:=decide ((Za s 64).1<30)||(decide ((Za s 64).1<36)||(decide ((Za s 64).1<40)||(decide ((Za s 64).1<46)||(decide ((Za s 64).1<50)||(decide ((Za s 64).1<53)||(decide ((Za s 64).1<55)||((Za s 64).1==55||(decide ((Za s 64).1<60)||(!Zbu (Za s 64).2||(!Zbu (Zam (Za s 64).2).2||(!Zbu (Zam (Zam (Za s 64).2).2).2||Zbu (Zam (Zam (Zam (Za s 64).2).2).2).2)))))))))))
 let x17:= !x16
 let x18:=decide ((Za s 64).1<30)||(decide ((Za s 64).1<36)||(decide ((Za s 64).1<40)||(decide ((Za s 64).1<46)||(decide ((Za s 64).1<50)||(decide ((Za s 64).1<53)||(decide ((Za s 64).1<55)||((Za s 64).1==55||(decide ((Za s 64).1<60)||(!Zbu (Za s 64).2||(!Zbu (Zam (Za s 64).2).2||Zbu (Zam (Zam (Za s 64).2).2).2))))))))))
 let x19:= !x18
 let x20:=decide ((Za s 64).1<30)||(decide ((Za s 64).1<36)||(decide ((Za s 64).1<40)||(decide ((Za s 64).1<46)||(decide ((Za s 64).1<50)||(decide ((Za s 64).1<53)||(decide ((Za s 64).1<55)||((Za s 64).1==55||(decide ((Za s 64).1<60)||(!Zbu (Za s 64).2||Zbu (Zam (Za s 64).2).2)))))))))
 let x21:=Za x9 256
 let x22:=x21.2
 .br (Zl s 64) (.br (x2||(x4||(x11||(x13||(x15||(x17||(x19||(!x20||(decide ((Za s 64).1<30)||(decide ((Za s 64).1<36)||(decide ((Za s 64).1<40)||(decide ((Za s 64).1<46)||(decide ((Za s 64).1<50)||(decide ((Za s 64).1<53)||(decide ((Za s 64).1<55)||((Za s 64).1==55||(decide ((Za s 64).1<60)||Zbu (Za s 64).2))))))))))))))))) (.br (x2||(x4||(x11||(x13||(x15||(x17||(x19||x20))))))) (.br (x2||(x4||(x11||(x13||(x15||(x17||x18)))))) (.br (x2||(x4||(x11||(x13||(x15||x16))))) (.br (x2||(x4||(x11||(x13||x14)))) (.br (x2||(x4||(x11||x12))) (.br (x2||(x4||x10)) (.br (x2||x3) (.br (x1) (Ls (((bif decide ((Za s 64).1<30) then ZQ.1 else !decide ((Za s 64).1<36)&&bif decide ((Za s 64).1<40) then ZQ.1 else bif decide ((Za s 64).1<46) then ZQ.1 else bif decide ((Za s 64).1<50) then ZQ.1 else bif decide ((Za s 64).1<53) then ZQ.1 else bif decide ((Za s 64).1<55) then ZQ.1 else bif (Za s 64).1==55 then ZQ.1 else bif decide ((Za s 64).1<60) then ZQ.1 else (Zam (Za s 64).2).1,bif decide ((Za s 64).1<30) then ZQ.2.1 else bif decide ((Za s 64).1<36) then ZQ.2.1 else decide ((Za s 64).1<40)||bif decide ((Za s 64).1<46) then ZQ.2.1 else bif decide ((Za s 64).1<50) then ZQ.2.1 else bif decide ((Za s 64).1<53) then ZQ.2.1 else bif decide ((Za s 64).1<55) then ZQ.2.1 else bif (Za s 64).1==55 then ZQ.2.1 else bif decide ((Za s 64).1<60) then ZQ.2.1 else (Zam (Zam (Za s 64).2).2).1,bif decide ((Za s 64).1<30) then ZQ.2.2.1 else bif decide ((Za s 64).1<36) then ZQ.2.2.1 else bif decide ((Za s 64).1<40) then ZQ.2.2.1 else bif decide ((Za s 64).1<46) then ZQ.2.2.1 else bif decide ((Za s 64).1<50) then ZQ.2.2.1 else bif decide ((Za s 64).1<53) then ZQ.2.2.1 else bif decide ((Za s 64).1<55) then ZQ.2.2.1 else (Za s 64).1==55||decide ((Za s 64).1<60)&&ZQ.2.2.1,bif decide ((Za s 64).1<30) then ZQ.2.2.2.1 else bif decide ((Za s 64).1<36) then ZQ.2.2.2.1 else bif decide ((Za s 64).1<40) then ZQ.2.2.2.1 else bif decide ((Za s 64).1<46) then ZQ.2.2.2.1 else bif decide ((Za s 64).1<50) then ZQ.2.2.2.1 else bif decide ((Za s 64).1<53) then (Za s 64).1==51 else bif decide ((Za s 64).1<55) then ZQ.2.2.2.1 else bif (Za s 64).1==55 then ZQ.2.2.2.1 else bif decide ((Za s 64).1<60) then ZQ.2.2.2.1 else (Zam (Zam (Zam (Za s 64).2).2).2).1,bif decide ((Za s 64).1<30) then ZQ.2.2.2.2.1 else bif decide ((Za s 64).1<36) then ZQ.2.2.2.2.1 else bif decide ((Za s 64).1<40) then ZQ.2.2.2.2.1 else bif decide ((Za s 64).1<46) then ZQ.2.2.2.2.1 else bif decide ((Za s 64).1<50) then ZQ.2.2.2.2.1 else bif decide ((Za s 64).1<53) then ZQ.2.2.2.2.1 else decide ((Za s 64).1<55)||bif (Za s 64).1==55 then ZQ.2.2.2.2.1 else decide ((Za s 64).1<60)&&ZQ.2.2.2.2.1,bif decide ((Za s 64).1<30) then ZQ.2.2.2.2.2.1 else bif decide ((Za s 64).1<36) then ZQ.2.2.2.2.2.1 else bif decide ((Za s 64).1<40) then ZQ.2.2.2.2.2.1 else bif decide ((Za s 64).1<46) then ZQ.2.2.2.2.2.1 else bif decide ((Za s 64).1<50) then Int.tmod (Za s 64).1 2==0 else bif decide ((Za s 64).1<53) then ZQ.2.2.2.2.2.1 else bif decide ((Za s 64).1<55) then ZQ.2.2.2.2.2.1 else bif (Za s 64).1==55 then ZQ.2.2.2.2.2.1 else bif decide ((Za s 64).1<60) then ZQ.2.2.2.2.2.1 else (Zam (Zam (Zam (Zam (Za s 64).2).2).2).2).1,bif decide ((Za s 64).1<30) then ZQ.2.2.2.2.2.2.1 else bif decide ((Za s 64).1<36) then ZQ.2.2.2.2.2.2.1 else bif decide ((Za s 64).1<40) then ZQ.2.2.2.2.2.2.1 else bif decide ((Za s 64).1<46) then ZQ.2.2.2.2.2.2.1 else bif decide ((Za s 64).1<50) then Int.tmod (Za s 64).1 2==1 else bif decide ((Za s 64).1<53) then ZQ.2.2.2.2.2.2.1 else bif decide ((Za s 64).1<55) then ZQ.2.2.2.2.2.2.1 else bif (Za s 64).1==55 then ZQ.2.2.2.2.2.2.1 else bif decide ((Za s 64).1<60) then ZQ.2.2.2.2.2.2.1 else (Zam (Zam (Zam (Zam (Zam (Za s 64).2).2).2).2).2).1,bif decide ((Za s 64).1<30) then ZQ.2.2.2.2.2.2.2.1 else bif decide ((Za s 64).1<36) then ZQ.2.2.2.2.2.2.2.1 else bif decide ((Za s 64).1<40) then ZQ.2.2.2.2.2.2.2.1 else bif decide ((Za s 64).1<46) then ZQ.2.2.2.2.2.2.2.1 else bif decide ((Za s 64).1<50) then ZQ.2.2.2.2.2.2.2.1 else decide ((Za s 64).1<53)||bif decide ((Za s 64).1<55) then ZQ.2.2.2.2.2.2.2.1 else bif (Za s 64).1==55 then ZQ.2.2.2.2.2.2.2.1 else decide ((Za s 64).1<60)&&ZQ.2.2.2.2.2.2.2.1,bif decide ((Za s 64).1<30) then ZQ.2.2.2.2.2.2.2.2.1 else bif decide ((Za s 64).1<36) then ZQ.2.2.2.2.2.2.2.2.1 else bif decide ((Za s 64).1<40) then ZQ.2.2.2.2.2.2.2.2.1 else bif decide ((Za s 64).1<46) then u8.wrap (Za (Za s 64).2 256).1 else bif decide ((Za s 64).1<50) then ZQ.2.2.2.2.2.2.2.2.1 else bif decide ((Za s 64).1<53) then ZQ.2.2.2.2.2.2.2.2.1 else bif decide ((Za s 64).1<55) then ZQ.2.2.2.2.2.2.2.2.1 else bif (Za s 64).1==55 then ZQ.2.2.2.2.2.2.2.2.1 else bif decide ((Za s 64).1<60) then 1 else u8.wrap x8.1,bif decide ((Za s 64).1<30) then u8.wrap (Za s 64).1 else bif decide ((Za s 64).1<36) then ZQ.2.2.2.2.2.2.2.2.2 else bif decide ((Za s 64).1<40) then ZQ.2.2.2.2.2.2.2.2.2 else bif decide ((Za s 64).1<46) then ZQ.2.2.2.2.2.2.2.2.2 else bif decide ((Za s 64).1<50) then ZQ.2.2.2.2.2.2.2.2.2 else bif decide ((Za s 64).1<53) then ZQ.2.2.2.2.2.2.2.2.2 else bif decide ((Za s 64).1<55) then ZQ.2.2.2.2.2.2.2.2.2 else bif (Za s 64).1==55 then ZQ.2.2.2.2.2.2.2.2.2 else bif decide ((Za s 64).1<60) then (Zap (Za s 64).2).1 else u8.wrap x21.1),bif decide ((Za s 64).1<30) then (Za s 64).2.1 else bif decide ((Za s 64).1<36) then (Za s 64).2.1 else bif decide ((Za s 64).1<40) then (Za s 64).2.1 else bif decide ((Za s 64).1<46) then (Za (Za s 64).2 256).2.1 else bif decide ((Za s 64).1<50) then (Za s 64).2.1 else bif decide ((Za s 64).1<53) then (Za s 64).2.1 else bif decide ((Za s 64).1<55) then (Za s 64).2.1 else bif (Za s 64).1==55 then (Za s 64).2.1 else bif decide ((Za s 64).1<60) then (Zap (Za s 64).2).2.1 else x22.1,bif decide ((Za s 64).1<30) then (Za s 64).2.2 else bif decide ((Za s 64).1<36) then (Za s 64).2.2 else bif decide ((Za s 64).1<40) then (Za s 64).2.2 else bif decide ((Za s 64).1<46) then (Za (Za s 64).2 256).2.2 else bif decide ((Za s 64).1<50) then (Za s 64).2.2 else bif decide ((Za s 64).1<53) then (Za s 64).2.2 else bif decide ((Za s 64).1<55) then (Za s 64).2.2 else bif (Za s 64).1==55 then (Za s 64).2.2 else bif decide ((Za s 64).1<60) then (Zap (Za s 64).2).2.2 else x22.2))) Ln) Ln) Ln) Ln) Ln) Ln) Ln) Ln) Ln) Ln
def ZdQ (s:List Int×Int):INPT×List Int×Int:=getO (ZJt.Df,ZCB.Df) (Zpa s).val
def Zis (s:List Int×Int):Bool:=okB (Zpa s).val
def Zpb:En:=boxE ZCB Zxw ZJt (λa=>some (Zis a.1)) (λa=>ZdQ a.1)
theorem Zo9:Zb prog 62 Zpb:=
 Zcm (P:=prog) (n:=5036105318265824215071) (k:=8) (l:=[(68,Zcy),(69,ZUt),(118,ZTA),(119,ZhC)]) (ol:=[]) ⟨ZaM,ZSA,ZQv,Zfo,Tv⟩ Tryz.func62 rfl (by kernel_rfl) Tryz.call62 trivial (rb:=ZCB) (ts:=Zxw) (rs:=ZJt) (t:=λa=>Zpa a.1) (λa=>by kernel_rfl)
abbrev Zo7:Rs:=Rs.one (So (R.sl ZcP))
def ZIE:LS:={n:=39,Sl:=[(0,.fix (A.loc 0 0)),(5,.tip 0),(6,.code (So Kc)),(7,.fix (A.loc 1 0)),(8,.code (So Kc))],Bx:=[[.many (R.Pq (R.sl Kc) Kc)],[.many ZcP]],Sg:=[⟨ZcP,122,true⟩]}
def Zd9 (a:QT22):RT (Option (Go1 (QT22))):=
 let x1:List INPT:=a.2.2.2.2.1++[a.2.2.2.1]
 .br (decide (a.2.1>=0)&&decide (iN (Le a.2.2.2.2.1)<a.1)) (.br (Nat.ble (Le x1) most) (Ls (Go1.cont (a.1,i64.wrap (a.2.1-1),a.2.2.1,a.2.2.2.1,x1,PUnit.unit))) Ln) (Ls (Go1.brk (a.1,a.2.1,a.2.2.1,a.2.2.2.1,a.2.2.2.2.1,PUnit.unit)))
def ZhD:Ora:=ZaY false ZIE Zd9 (λa=>400)
theorem Zlq:ZaB (envX prog [(62,Zpb),(68,Zcy)] [] 511 8) (.block 2 (.loop (ZX Tryz.f125.body 2))) ZhD:=
 loopP ⟨Zo9,ZaM,Tv⟩
def ZID:LS:={n:=39,Sl:=[(0,.fix (A.loc 0 0)),(5,.tip 0),(6,.code (So Kc))],Bx:=[[.many (R.Pq (R.sl Kc) Kc)]],Sg:=[⟨ZcP,122,true⟩]}
def Zfp (a:QT30):RT (Option (Go1 (QT30))):=
 let x1:= !Zl (ZdQ a.2.1).2 4||Zl (Za (ZdQ a.2.1).2 4).2 5
 let x2:= !x1
 let x3:QT22:=(a.1,i64.wrap ((Za (ZdQ a.2.1).2 4).1*(Za (Za (ZdQ a.2.1).2 4).2 5).1),(Za (Za (ZdQ a.2.1).2 4).2 5).2,(ZdQ a.2.1).1,a.2.2.1,())
 let x4:=runF false Zd9 (λa_1=>400) x3
 let x5:QT22:=(getO (false,x3) x4).2
 let x6:=x5.2.2
 .br (decide (iN (Le a.2.2.1)<a.1)) (.br (!Zis a.2.1||(x2||(!Zl (ZdQ a.2.1).2 4||okB x4))) (.br (!Zis a.2.1||(x2||Zl (ZdQ a.2.1).2 4)) (.br (!Zis a.2.1||x1) (.br (Zis a.2.1) (Ls (Go1.cont (x5.1,x6.1,x6.2.2.1,PUnit.unit))) Ln) Ln) Ln) Ln) (Ls (Go1.brk (a.1,a.2.1,a.2.2.1,PUnit.unit)))
def ZrA:Ora:=ZaY false ZID Zfp (λa=>400)
theorem Zyu:ZaB (envX prog [(62,Zpb),(68,Zcy)] [(2,ZhD)] 511 8) (.block 0 (.loop (ZX Tryz.f125.body 0))) ZrA:=
 ZgY (ZbF (l:=[(62,Zpb),(68,Zcy)]) ⟨Zo9,ZaM,Tv⟩ [(2,ZhD)] 511 8) (ZfV (by kernel_rfl) (by kernel_rfl) ⟨Zlq,Tv⟩) (λa=>by kernel_rfl)
def Zjv (s:List Int×Int) (n:Int):RT (Option (List INPT×List Int×Int)):=
 let x1:QT30:=((Za s (i64.wrap (n+1))).1,(Za s (i64.wrap (n+1))).2,[],())
 let x2:=runF false Zfp (λa=>400) x1
 let x3:(List Int×Int)×List INPT×PUnit:=(getO (false,x1) x2).2.2
 .br (Zl s (i64.wrap (n+1))) (.br (okB x2) (Ls ((x3.2.1,x3.1))) Ln) Ln
def Zai (s:List Int×Int) (n:Int):List INPT×List Int×Int:=getO (Zo7.Df,ZCB.Df) (Zjv s n).val
def Zjw (s:List Int×Int) (n:Int):Bool:=okB (Zjv s n).val
def ZFS:En:=boxE ZCB ZxT Zo7 (λa=>some (Zjw a.1 a.2)) (λa=>Zai a.1 a.2)
theorem ZIB:Zb prog 125 ZFS:=
 Zcm (P:=prog) (n:=511) (k:=8) (l:=[(62,Zpb),(68,Zcy)]) (ol:=[(2,ZhD),(0,ZrA)]) ⟨Zo9,ZaM,Tv⟩ Tryz.func125 rfl (by kernel_rfl) Tryz.call125 ⟨Zlq,Zyu,Tv⟩ (rb:=ZCB) (ts:=ZxT) (rs:=Zo7) (t:=λa=>Zjv a.1 a.2) (λa=>by kernel_rfl)
variable {s:List Int×Int} {k:Int}
theorem NB.up {j:Int} (h:NB s k) (hj:k<=j):NB s j:=⟨h.1,by have:=h.2;omega⟩
theorem Zjx (h:NB s k) (hk:k<=1000000):Zbu s=true/\NB (Zam s).2 (k+1):=by obtain⟨c1,b,_⟩:=Zs h hk 2 (by decide) (by decide);simp only[Zbu,Zam,ZFU,RT.val,c1,Ya,okB,getO];exact⟨trivial,b⟩
theorem ZaE {a b:Nat} (h:a<=b):Nat.ble a b=true:=by rw[YG];exact h
theorem ZCw (h:NB s k) (hk:k<=500000) (n:Nat) (hn:n<=100):
  Zb4 s (n:Int)=true/\NB (ZZ s (n:Int)).2 (k+1+5*n)/\(ZZ s (n:Int)).1.length<=n:=by
 have hms:=mst;have w0:IntKind.wrap .i64 ((n:Int)+1)=(n:Int)+1:=wrap_i64 _ (by omega) (by omega);obtain⟨c1,b1,d0,d1⟩:=Zs h (by omega) ((n:Int)+1) (by omega) (by omega);obtain⟨L,N,hs1⟩:∃L N,(L,N)=(Za s ((n:Int)+1)).2:=⟨_,_,rfl⟩;obtain⟨q,hq⟩:∃q:Nat,(Za s ((n:Int)+1)).1=(q:Int):=⟨_,(Yap d0).symm⟩;rw[<-hs1] at b1;obtain⟨r,hr,h1,L',N',o,hs',ho,hR⟩:=ZA (fl:=false) (t:=Zb3) (fuel:=λa=>400)
  (λa=>∃(i:Nat) (L:List Int) (N:Int) (o:List ZG),i<=q/\NB (L,N) (k+1+5*((q-i:Nat):Int))/\o.length<=q-i/\a=((i:Int),(L,N),o,()))
  (λa=>Int.toNat a.1) (λr=>r.1=false/\∃(L:List Int) (N:Int) (o:List ZG),NB (L,N) (k+1+5*(q:Int))/\o.length<=q/\r.2=((0:Int),(L,N),o,()))
  (by
   rintro a ⟨i,L,N,o,hi,hs',ho,rfl⟩;cases i with
   |zero=>
    right;left;exact⟨_,by simp only[Zb3,RT.val];rfl,rfl,L,N,o,by simpa using hs',by omega,rfl⟩
   |succ i=>
    left;have d:decide (((i+1:Nat):Int)>0)=true:=Yq (by omega);obtain⟨kw,bw,_⟩:=ZFQ hs' (by omega);obtain⟨k1,b1,e0,e1⟩:=Zs bw (by omega) 6 (by decide) (by decide);obtain⟨k2,b2,_⟩:=Zs b1 (by omega) 3 (by decide) (by decide);obtain⟨k3,b3,f0,f1⟩:=Zs b2 (by omega) 5 (by decide) (by decide);have r1:Zf (Za (ZaX (L,N)).2 6).1 6=true:=ZT.2 ⟨e0,e1⟩;have r2:Zf (Za (Za (Za (ZaX (L,N)).2 6).2 3).2 5).1 5=true:=ZT.2 ⟨f0,f1⟩;have hb:∀x:ZG,Nat.ble (o++[x]).length most=true:=λx=>ZaE (by simp;omega)
    have w:IntKind.wrap .i64 (((i+1:Nat):Int)-1)=(i:Int):=by rw[wrap_i64 _ (by omega) (by omega)];omega
    obtain⟨o',ho'⟩:∃o':List ZG,o'=o++[((ZaX (L,N)).1,u16.wrap (if 65535<i64.wrap (i64.wrap (ZaX (L,N)).1+R.get (R.int i64) [0,3,15,255,4095,65535] (Za (ZaX (L,N)).2 6).1) then 65535 else i64.wrap (i64.wrap (ZaX (L,N)).1+R.get (R.int i64) [0,3,15,255,4095,65535] (Za (ZaX (L,N)).2 6).1)),decide ((Za (Za (ZaX (L,N)).2 6).2 3).1>0),R.get (R.int i64) [0,0,1,2,5] (Za (Za (Za (ZaX (L,N)).2 6).2 3).2 5).1)]:=⟨_,rfl⟩;refine⟨((i:Int),((Za (Za (Za (ZaX (L,N)).2 6).2 3).2 5).2.1,(Za (Za (Za (ZaX (L,N)).2 6).2 3).2 5).2.2),o',()),?_,⟨i,_,_,o',by omega,b3.up (by omega),by rw[ho'];simp;omega,rfl⟩,by simp only;omega⟩
    simp only[Zb3,RT.val,List.length_cons,List.length_nil,Nat.reduceAdd,d,kw,k1,k2,k3,r1,r2,hb,w,ho',Ya,Yf,Yj,Yi,Yy])
  ((q:Int),(L,N),[],()) ⟨q,L,N,[],Ye _,by simpa using b1,by simp,rfl⟩ (by simp only;omega)
 obtain⟨r1,r2⟩:=r;simp only at h1 hR;subst h1 hR;have hv:(Zet s (n:Int)).val=some (o,L',N'):=by simp only[Zet,RT.val,w0,c1,hq,<-hs1,hr,okB,getO,Ya]
 simp only[Zb4,ZZ,hv,okB,getO];exact⟨trivial,hs'.up (by omega),by omega⟩
theorem ZYo {l:List Cell} (h:l.length<=1000):smC l=true:=ZaE (by have:=mst;omega)
theorem ZTO {l:List Int} (h:l.length<=1000):smB l=true:=ZaE (by have:=mst;omega)
theorem ZCC (h:NB s k) (hk:k<=400000):ZIA s=true/\NB (nMap s).2 (k+20)/\(nMap s).1.length<=3:=by
 obtain⟨c1,b1,l1⟩:=ZCw h (by omega) 2 (by omega);have c1:Zb4 s 2=true:=c1;have b1:NB (ZZ s 2).2 (k+1+5*((2:Nat):Int)):=b1;have l1:(ZZ s 2).1.length<=2:=l1;obtain⟨c2,b2,_⟩:=Zs b1 (by omega) 3 (by decide) (by decide);have hs:∀x:ZG,Nat.ble ((ZZ s 2).1++[x]).length most=true:=λx=>ZaE (by have:=mst;simp;omega)
 have hg:∀l:List ZG,Stg.l (newG Zd7 Zd8 l)=l:=λ_=>rfl
 have hv:(ZCD s).val=some ((ZZ s 2).1++[(0,65535,true,IntKind.wrap .i64 (Int.tdiv (Za (ZZ s 2).2 3).1 2))],(Za (ZZ s 2).2 3).2):=by simp only[ZCD,RT.val,hg,c1,c2,hs,Yf,Yj,Yi,Ya]
 refine⟨by simp only[ZIA,hv];rfl,?_,?_⟩
 ·simp only[nMap,hv,getO];exact b2.up (by omega)
 ·simp only[nMap,hv,getO];simp;omega
theorem ZCy (h:NB s k) (hk:k<=300000) (n:Nat) (hn:n<=20):
  ZgW s (n:Int)=true/\NB (Zcg s (n:Int)).2 (k+1+10*n)/\(Zcg s (n:Int)).1.length<=12*n:=by
 have hms:=mst;have w0:IntKind.wrap .i64 ((n:Int)+1)=(n:Int)+1:=wrap_i64 _ (by omega) (by omega);obtain⟨c1,b1,d0,d1⟩:=Zs h (by omega) ((n:Int)+1) (by omega) (by omega);obtain⟨s1,hs1⟩:∃s1,s1=(Za s ((n:Int)+1)).2:=⟨_,rfl⟩;obtain⟨q,hq⟩:∃q:Nat,(Za s ((n:Int)+1)).1=(q:Int):=⟨_,(Yap d0).symm⟩;rw[<-hs1] at b1;obtain⟨r,hr,h1,s',o,hs',ho,hR⟩:=ZA (fl:=false) (t:=Zdk) (fuel:=λa=>400)
  (λa=>∃(i:Nat) (s':List Int×Int) (o:List Int),i<=q/\NB s' (k+1+10*((q-i:Nat):Int))/\o.length<=12*(q-i)/\a=((i:Int),s',o,()))
  (λa=>Int.toNat a.1) (λr=>r.1=false/\∃(s':List Int×Int) (o:List Int),NB s' (k+1+10*(q:Int))/\o.length<=12*q/\r.2=((0:Int),s',o,()))
  (by
   rintro a ⟨i,s',o,hi,hs',ho,rfl⟩;cases i with
   |zero=>
    right;left;exact⟨_,by simp only[Zdk,RT.val];rfl,rfl,s',o,by simpa using hs',by omega,rfl⟩
   |succ i=>
    left;have d:decide (((i+1:Nat):Int)>0)=true:=Yq (by omega);have w:IntKind.wrap .i64 (((i+1:Nat):Int)-1)=(i:Int):=by rw[wrap_i64 _ (by omega) (by omega)];omega
    obtain⟨k0,b0,_⟩:=Zs hs' (by omega) 8 (by decide) (by decide);obtain⟨k1,b1,e0,e1⟩:=Zs b0 (by omega) 4 (by decide) (by decide);obtain⟨k2,b2,_⟩:=Zs b1 (by omega) 256 (by decide) (by decide);obtain⟨k3,b3,f0,f1⟩:=Zs b2 (by omega) 4 (by decide) (by decide);obtain⟨k4,b4,_⟩:=Zmo b0 (by omega);obtain⟨k5,b5,_⟩:=Zs b4 (by omega) 8 (by decide) (by decide);obtain⟨k6,b6,_⟩:=Zs b0 (by omega) 16 (by decide) (by decide);obtain⟨k7,b7,_⟩:=Zmo b6 (by omega);obtain⟨k8,b8,_⟩:=ZkO b0 (by omega);obtain⟨k9,b9,_⟩:=Zs b8 (by omega) 64 (by decide) (by decide);obtain⟨ka,ba,g0,g1⟩:=Zs b9 (by omega) 4 (by decide) (by decide);have r1:Zf (Za (Za s' 8).2 4).1 4=true:=ZT.2 ⟨e0,e1⟩;have r2:Zf (Za (Za (Za (Za s' 8).2 4).2 256).2 4).1 4=true:=ZT.2 ⟨f0,f1⟩;have r3:Zf (Za (Za (Zap (Za s' 8).2).2 64).2 4).1 4=true:=ZT.2 ⟨g0,g1⟩;have hb:∀x:List Int,x.length<=12->Nat.ble (o++x).length most=true:=λx hx=>ZaE (by rw[Yd];omega)
    have q1:∀a b c:Int,Nat.ble (o++[a,b,c]).length most=true:=λa b c=>hb _ (by simp)
    have q2:∀a b c d:Int,Nat.ble (o++[a,b,c,d]).length most=true:=λa b c d=>hb _ (by simp)
    have q3:∀a:Int,Nat.ble (o++[a]).length most=true:=λa=>hb _ (by simp)
    have q4:∀a b c d e f g h i j k l:Int,Nat.ble (o++[a,b,c,d,e,f,g,h,i,j,k,l]).length most=true:=λa b c d e f g h i j k l=>hb _ (by simp)
    have hv:∃s2 x,x.length<=12/\NB s2 (k+1+10*((q-i:Nat):Int))/\(Zdk (((i+1:Nat):Int),s',o,())).val=some (Go1.cont ((i:Int),s2,o++x,())):=by
     simp only[Zdk,RT.val,List.length_cons,List.length_nil,Nat.reduceAdd,d,w,k0,k1,k2,k3,k4,k5,k6,k7,k8,k9,ka,r1,r2,r3,q1,q2,q3,q4,Ya,Yf,Yj,Yi,Yy];cases (Za s' 8).1==0
     ·cases (Za s' 8).1==1
      ·cases (Za s' 8).1==2
       ·cases (Za s' 8).1==3
        ·exact⟨_,[(Zap (Za s' 8).2).1,IntKind.wrap .u8 (Za (Zap (Za s' 8).2).2 64).1,R.get (R.int .u8) [0,0,1,255] (Za (Za (Zap (Za s' 8).2).2 64).2 4).1],by simp,ba.up (by omega),rfl⟩
        ·exact⟨_,[62,IntKind.wrap .u8 (IntKind.wrap .i64 (16+(Za (Za s' 8).2 16).1)),211,0,62,(Zc6 (Za (Za s' 8).2 16).2).1,211,1,62,0,211,1],by simp,b7.up (by omega),rfl⟩
       ·exact⟨_,[251],by simp,b0.up (by omega),rfl⟩
      ·exact⟨_,[62,(Zc6 (Za s' 8).2).1,211,IntKind.wrap .u8 (Za (Zc6 (Za s' 8).2).2 8).1],by simp,b5.up (by omega),rfl⟩
     ·exact⟨_,[R.get (R.int .u8) [33,49,1,17] (Za (Za s' 8).2 4).1,IntKind.wrap .u8 (Za (Za (Za s' 8).2 4).2 256).1,R.get (R.int .u8) [0,0,1,255] (Za (Za (Za (Za s' 8).2 4).2 256).2 4).1],by simp,b3.up (by omega),rfl⟩
    obtain⟨s2,x,hx,hs2,hv⟩:=hv
    exact⟨_,hv,⟨i,s2,o++x,by omega,hs2,by rw[Yd];omega,rfl⟩,by simp only;omega⟩)
  ((q:Int),s1,[],()) ⟨q,s1,[],Ye _,by simpa using b1,by simp,rfl⟩ (by simp only;omega)
 obtain⟨r1,r2⟩:=r;simp only at h1 hR;subst h1 hR;have hv:(ZgV s (n:Int)).val=some (o,s'):=by simp only[ZgV,RT.val,w0,c1,hq,<-hs1,hr,okB,getO,Ya]
 simp only[ZgW,Zcg,hv,okB,getO];exact⟨trivial,hs'.up (by omega),by omega⟩
theorem ZyM (t:Int) (b:List Int):(Zps t b).length<=b.length:=by have:=Zcx (Zpu t b b.length);rw[Zpt] at this;exact this
theorem ZOr (h:NB s k) (hk:k<=300000):Zis s=true/\NB (ZdQ s).2 (k+20):=by
 obtain⟨c1,b1,_⟩:=Zs h (by omega) 64 (by decide) (by decide);obtain⟨c2,b2,_⟩:=Zs b1 (by omega) 256 (by decide) (by decide);obtain⟨c3,b3,_⟩:=ZkO b1 (by omega);obtain⟨f1,g1⟩:=Zjx b1 (by omega);obtain⟨f2,g2⟩:=Zjx g1 (by omega);obtain⟨f3,g3⟩:=Zjx g2 (by omega);obtain⟨f4,g4⟩:=Zjx g3 (by omega);obtain⟨f5,g5⟩:=Zjx g4 (by omega);obtain⟨c4,b4,_⟩:=Zs g5 (by omega) 256 (by decide) (by decide);obtain⟨c5,b5,_⟩:=Zs b4 (by omega) 256 (by decide) (by decide);have hv:∃c s',(Zpa s).val=some (c,s')/\NB s' (k+20):=by
  simp only[Zpa,RT.val,c1,c2,c3,c4,c5,f1,f2,f3,f4,f5,Ya,Yf,Yj,Yi,Yy];cases decide ((Za s 64).1<30) with
  |true=>exact⟨_,_,rfl,b1.up (by omega)⟩
  |false=>
  cases decide ((Za s 64).1<36) with
  |true=>exact⟨_,_,rfl,b1.up (by omega)⟩
  |false=>
  cases decide ((Za s 64).1<40) with
  |true=>exact⟨_,_,rfl,b1.up (by omega)⟩
  |false=>
  cases decide ((Za s 64).1<46) with
  |true=>exact⟨_,_,rfl,b2.up (by omega)⟩
  |false=>
  cases decide ((Za s 64).1<50) with
  |true=>exact⟨_,_,rfl,b1.up (by omega)⟩
  |false=>
  cases decide ((Za s 64).1<53) with
  |true=>exact⟨_,_,rfl,b1.up (by omega)⟩
  |false=>
  cases decide ((Za s 64).1<55) with
  |true=>exact⟨_,_,rfl,b1.up (by omega)⟩
  |false=>
  cases ((Za s 64).1==55) with
  |true=>exact⟨_,_,rfl,b1.up (by omega)⟩
  |false=>
  cases decide ((Za s 64).1<60) with
  |true=>exact⟨_,_,rfl,b3.up (by omega)⟩
  |false=>exact⟨_,_,rfl,b5.up (by omega)⟩
 obtain⟨c,s',hv,h1⟩:=hv;simp only[Zis,ZdQ,hv,okB,getO];exact⟨trivial,h1⟩
theorem ZXr (s:List Int×Int) (z:Int) (c:INPT) (kk:Nat) (hk:kk<300) (o:List INPT) (size:Nat) (ho:o.length<=size) (hz:size<=300):
  ∃k2 o2,runF false Zd9 (λ_=>400) ((size:Int),(kk:Int),s,c,o,())=some (false,(size:Int),k2,s,c,o2,())/\o2.length<=size/\o.length<=o2.length/\(o.length<size->o.length<o2.length):=by
 have hms:=mst;obtain⟨r,hr,h1,k2,o2,e1,e2,e3,e4⟩:=ZA (fl:=false) (t:=Zd9) (fuel:=λ_=>400)
  (λa=>∃(j:Nat) (o2:List INPT),j<=kk+1/\o2.length<=size/\o.length<=o2.length/\(j=kk+1\/o.length<o2.length)/\a=((size:Int),(j:Int)-1,s,c,o2,()))
  (λa=>Int.toNat (a.2.1+1)) (λr=>r.1=false/\∃k2 o2,r.2=((size:Int),k2,s,c,o2,())/\o2.length<=size/\o.length<=o2.length/\(o.length<size->o.length<o2.length))
  (by
   rintro a ⟨j,o2,hj,h2,h3,h4,rfl⟩;have w:∀j:Nat,j<=1000->IntKind.wrap .i64 (((j:Nat):Int)-1-1)=(j:Int)-1-1:=λj hj=>wrap_i64 _ (by omega) (by omega)
   by_cases hc:1<=j/\o2.length<size
   ·left;have d1:decide (((j:Nat):Int)-1>=0)=true:=Yq (by omega);have d2:decide (iN o2.length<(size:Int))=true:=Yq (by simp only[iN,Le];omega);have hb:Nat.ble (o2++[c]).length most=true:=ZaE (by simp;omega);refine⟨((size:Int),(j:Int)-1-1,s,c,o2++[c],()),?_,⟨j-1,o2++[c],by omega,by simp;omega,by simp;omega,by right;simp;omega,?_⟩,by simp only;omega⟩
    ·simp only[Zd9,RT.val,d1,d2,hb,Y0,Ya,w j (by omega)]
    ·have:((j:Nat):Int)-1=((j-1:Nat):Int):=by omega
     rw[this]
   ·right;left;have d:(decide (((j:Nat):Int)-1>=0)&&decide (iN o2.length<(size:Int)))=false:=by simp only[iN,Le,Yah,Y9];omega
    exact⟨((size:Int),(j:Int)-1,s,c,o2,()),by simp only[Zd9,RT.val,d,Yb],rfl,_,o2,rfl,h2,h3,λh=>by
     rcases h4 with h4|h4
     ·omega
     ·exact h4⟩)
  ((size:Int),(kk:Int),s,c,o,()) ⟨kk+1,o,Ye _,ho,Ye _,.inl rfl,by
   have:(kk:Int)=((kk+1:Nat):Int)-1:=by omega
   rw[<-this]⟩ (by simp only;omega)
 obtain⟨r1,r2⟩:=r;simp only at h1 e1;subst h1 e1;exact⟨k2,o2,hr,e2,e3,e4⟩
theorem ZIC (h:NB s k) (hk:k<=100000) (n:Nat) (hn:n<=250):
  Zjw s (n:Int)=true/\NB (Zai s (n:Int)).2 (k+1+30*n)/\(Zai s (n:Int)).1.length<=n:=by
 have hms:=mst;have w0:IntKind.wrap .i64 ((n:Int)+1)=(n:Int)+1:=wrap_i64 _ (by omega) (by omega);obtain⟨c1,b1,d0,d1⟩:=Zs h (by omega) ((n:Int)+1) (by omega) (by omega);obtain⟨s1,hs1⟩:∃s1,s1=(Za s ((n:Int)+1)).2:=⟨_,rfl⟩;obtain⟨q,hq⟩:∃q:Nat,(Za s ((n:Int)+1)).1=(q:Int):=⟨_,(Yap d0).symm⟩;rw[<-hs1] at b1;obtain⟨r,hr,h1,s',o,hs',ho,hR⟩:=ZA (fl:=false) (t:=Zfp) (fuel:=λa=>400)
  (λa=>∃(s':List Int×Int) (o:List INPT),NB s' (k+1+30*(o.length:Int))/\o.length<=q/\a=((q:Int),s',o,()))
  (λa=>Int.toNat a.1-a.2.2.1.length) (λr=>r.1=false/\∃(s':List Int×Int) (o:List INPT),NB s' (k+1+30*(q:Int))/\o.length<=q/\r.2=((q:Int),s',o,()))
  (by
   rintro a ⟨s',o,hs',ho,rfl⟩;by_cases hc:o.length<q
   ·left;have d:decide (iN o.length<(q:Int))=true:=Yq (by simp only[iN,Le];omega);obtain⟨i1,g1⟩:=ZOr hs' (by omega);obtain⟨i2,g2,m0,m1⟩:=Zs g1 (by omega) 4 (by decide) (by decide);obtain⟨i3,g3,m2,m3⟩:=Zs g2 (by omega) 5 (by decide) (by decide);obtain⟨x,hx⟩:∃x:Nat,(Za (ZdQ s').2 4).1=(x:Int):=⟨_,(Yap m0).symm⟩;obtain⟨y,hy⟩:∃y:Nat,(Za (Za (ZdQ s').2 4).2 5).1=(y:Int):=⟨_,(Yap m2).symm⟩;have hxy:x*y<=3*4:=Nat.mul_le_mul (by omega) (by omega);have w:IntKind.wrap .i64 ((x:Int)*(y:Int))=((x*y:Nat):Int):=by rw[show (x:Int)*(y:Int)=((x*y:Nat):Int) by simp,wrap_i64 _ (by omega) (by omega)]
    obtain⟨k2,o2,hr,e2,e3,e4⟩:=ZXr (Za (Za (ZdQ s').2 4).2 5).2 0 (ZdQ s').1 (x*y) (by omega) o q ho (by omega);have e5:=e4 hc;refine⟨((q:Int),(Za (Za (ZdQ s').2 4).2 5).2,o2,()),?_,⟨_,o2,g3.up (by omega),e2,rfl⟩,by simp only;omega⟩;simp only[Zfp,RT.val,d,i1,i2,i3,hx,hy,w,hr,okB,getO,Ya,Yf,Yj,Yi,Yy]
   ·right;left;have d:decide (iN o.length<(q:Int))=false:=Yx (by simp only[iN,Le];omega)
    exact⟨_,by simp only[Zfp,RT.val,d,Yb],rfl,s',o,hs'.up (by omega),ho,rfl⟩)
  ((q:Int),s1,[],()) ⟨s1,[],by simpa using b1,by simp,rfl⟩ (by simp only[List.length_nil];omega)
 obtain⟨r1,r2⟩:=r;simp only at h1 hR;subst h1 hR;have hv:(Zjv s (n:Int)).val=some (o,s'):=by simp only[Zjv,RT.val,w0,c1,hq,<-hs1,hr,okB,getO,Ya]
 simp only[Zjw,Zai,hv,okB,getO];exact⟨trivial,hs'.up (by omega),by omega⟩
theorem Zyx (h:NB s k) (hk:k<=10000):
  Zpf s=true/\NB (Zcz s).2 (k+300)/\(∃s1,NB s1 (k+1)/\(Zcz s).1.2.1=(nMap s1).1)/\((Zcz s).1.1=1\/(Zcz s).1.1=2)/\
   (0<=(Zcz s).1.2.2.1/\(Zcz s).1.2.2.1<=2)/\∃l:List Cell,l.length<=200/\(Zcz s).1.2.2.2.2.2.2=normX l:=by
 have hms:=mst;obtain⟨c0,b0,hch⟩:=ZSB h (by omega);obtain⟨c1,b1,l1⟩:=ZCC b0 (by omega);obtain⟨c2,b2,w0,w1⟩:=Zs b1 (by omega) 3 (by decide) (by decide);obtain⟨c3,b3,_⟩:=Zs b2 (by omega) 4 (by decide) (by decide);obtain⟨c4,b4,_⟩:=Zs b3 (by omega) 6 (by decide) (by decide);obtain⟨c5,b5,_⟩:=Zmo b4 (by omega);obtain⟨c6,b6,_⟩:=Zmo b5 (by omega)
 obtain⟨s2,hs2,b7⟩:∃s2,s2=((bif (Za (Za (Za (nMap (Za6 s).2).2 3).2 4).2 6).1==0 then (Zc6 (Zc6 (Za (Za (Za (nMap (Za6 s).2).2 3).2 4).2 6).2).2).2.1 else (Za (Za (Za (nMap (Za6 s).2).2 3).2 4).2 6).2.1,
   bif (Za (Za (Za (nMap (Za6 s).2).2 3).2 4).2 6).1==0 then (Zc6 (Zc6 (Za (Za (Za (nMap (Za6 s).2).2 3).2 4).2 6).2).2).2.2 else (Za (Za (Za (nMap (Za6 s).2).2 3).2 4).2 6).2.2):List Int×Int)/\NB s2 (k+30):=by
  refine⟨_,rfl,?_⟩;cases (Za (Za (Za (nMap (Za6 s).2).2 3).2 4).2 6).1==0
  ·exact b4.up (by omega)
  ·exact b6.up (by omega)
 obtain⟨c8,b8,l8⟩:=ZCy b7 (by omega) 12 (by omega);have c8:ZgW s2 12=true:=c8;have b8:NB (Zcg s2 12).2 (k+30+1+10*((12:Nat):Int)):=b8;have l8:(Zcg s2 12).1.length<=12*12:=l8;obtain⟨c9,b9,d0,d1⟩:=Zs b8 (by omega) 4 (by decide) (by decide);have hl:=ZyM 0 (Zcg s2 12).1;obtain⟨q,hq⟩:∃q:Nat,(Za (Zcg s2 12).2 4).1=(q:Int):=⟨_,(Yap d0).symm⟩;have hg:∀l:List Cell,Stg.l (newG ZcR Zsc l)=l:=λ_=>rfl
 have key:∀x y z:BRDT,∀o:List Cell,o.length<=144->∃s' o',NB s' (k+200)/\o'.length<=200/\
   runF false Zfq (λ_=>400) ((q:Int),(Za (Zcg s2 12).2 4).2,x,y,o,())=some (false,0,s',x,y,o',()):=by
  intro x y z o ho;obtain⟨r,hr,h1,s',o',g1,g2,g3⟩:=ZA (fl:=false) (t:=Zfq) (fuel:=λ_=>400)
   (λa=>∃(i:Nat) (s':List Int×Int) (o:List Cell),i<=q/\NB s' (k+30+1+10*((12:Nat):Int)+1+4*((q-i:Nat):Int))/\o.length<=144+3*(q-i)/\a=((i:Int),s',x,y,o,()))
   (λa=>Int.toNat a.1) (λr=>r.1=false/\∃s' o',NB s' (k+200)/\o'.length<=200/\r.2=(0,s',x,y,o',()))
   (by
    rintro a ⟨i,s',o,hi,hs',ho,rfl⟩;cases i with
    |zero=>
     right;left;exact⟨_,by simp only[Zfq,RT.val];rfl,rfl,s',o,hs'.up (by omega),by omega,rfl⟩
    |succ i=>
     left;have d:decide (((i+1:Nat):Int)>0)=true:=Yq (by omega);have w:IntKind.wrap .i64 (((i+1:Nat):Int)-1)=(i:Int):=by rw[wrap_i64 _ (by omega) (by omega)];omega
     obtain⟨k0,b0,e0,e1⟩:=Zs hs' (by omega) 6 (by decide) (by decide);obtain⟨k1,b1,_⟩:=ZkO b0 (by omega);have r1:Zf (Za s' 6).1 6=true:=ZT.2 ⟨e0,e1⟩;have hsb:∀a b c:Int,smB [a,b,c]=true:=λa b c=>ZTO (by simp)
     have hll:=ZyM (IntKind.wrap .u16 (R.get (R.int .i64) [36,60,52,44,56,32] (Za s' 6).1)) [(Zap (Za s' 6).2).1,251,201];simp only[List.length_cons,List.length_nil] at hll;have hb:Nat.ble (o++Zps (IntKind.wrap .u16 (R.get (R.int .i64) [36,60,52,44,56,32] (Za s' 6).1)) [(Zap (Za s' 6).2).1,251,201]).length most=true:=ZaE (by rw[Yd];omega);refine⟨((i:Int),(Zap (Za s' 6).2).2,x,y,o++Zps (IntKind.wrap .u16 (R.get (R.int .i64) [36,60,52,44,56,32] (Za s' 6).1)) [(Zap (Za s' 6).2).1,251,201],()),?_,⟨i,_,_,by omega,b1.up (by omega),by rw[Yd];omega,rfl⟩,by simp only;omega⟩
     simp only[Zfq,RT.val,hg,List.length_cons,List.length_nil,Nat.reduceAdd,d,w,k0,k1,r1,hsb,hb,Ya,Yf,Yj,Yi,Yy])
   ((q:Int),(Za (Zcg s2 12).2 4).2,x,y,o,()) ⟨q,_,o,Ye _,b9.up (by omega),by omega,rfl⟩ (by simp only;omega)
  obtain⟨r1,r2⟩:=r;simp only at h1 g3;subst h1 g3;exact⟨s',o',g1,g2,hr⟩
 obtain⟨s',o',g1,g2,hr⟩:=key (0,[],0,0,0,false,[]) ((Za6 s).1,(nMap (Za6 s).2).1,(Za (nMap (Za6 s).2).2 3).1,bif (Za (Za (Za (nMap (Za6 s).2).2 3).2 4).2 6).1==0 then (Zc6 (Za (Za (Za (nMap (Za6 s).2).2 3).2 4).2 6).2).1 else 0,
  bif (Za (Za (Za (nMap (Za6 s).2).2 3).2 4).2 6).1==0 then (Zc6 (Zc6 (Za (Za (Za (nMap (Za6 s).2).2 3).2 4).2 6).2).2).1 else 4,(Za (Za (nMap (Za6 s).2).2 3).2 4).1==0,[]) (0,[],0,0,0,false,[]) (Zps 0 (Zcg s2 12).1) (by omega)
 have hsc:smC o'=true:=ZYo (by omega);have hsb:smB (Zcg s2 12).1=true:=ZTO (by omega);have hv:∃p d,(Zpe s).val=some (((Za6 s).1,(nMap (Za6 s).2).1,(Za (nMap (Za6 s).2).2 3).1,p,d,(Za (Za (nMap (Za6 s).2).2 3).2 4).1==0,normX o'),s'):=by
  refine⟨bif (Za (Za (Za (nMap (Za6 s).2).2 3).2 4).2 6).1==0 then (Zc6 (Za (Za (Za (nMap (Za6 s).2).2 3).2 4).2 6).2).1 else 0,
   bif (Za (Za (Za (nMap (Za6 s).2).2 3).2 4).2 6).1==0 then (Zc6 (Zc6 (Za (Za (Za (nMap (Za6 s).2).2 3).2 4).2 6).2).2).1 else 4,?_⟩
  simp only[Zpe,RT.val,hg,<-hs2,c0,c1,c2,c3,c4,c5,c6,c8,c9,hsb,hq,hr,hsc,okB,getO,Ya,Yf,Yj,Yi,Yy]
 obtain⟨p,d,hv⟩:=hv;have e1:Zpf s=true:=by simp only[Zpf,hv];rfl
 have e2:Zcz s=(((Za6 s).1,(nMap (Za6 s).2).1,(Za (nMap (Za6 s).2).2 3).1,p,d,(Za (Za (nMap (Za6 s).2).2 3).2 4).1==0,normX o'),s'):=by simp only[Zcz,hv,getO]
 rw[e2];exact⟨e1,g1.up (by omega),⟨_,b0,rfl⟩,hch,⟨w0,by show (Za (nMap (Za6 s).2).2 3).1<=2;omega⟩,o',g2,rfl⟩
theorem ZVa (s:Int) {l:Int} (h:0<=l):vOnC s l=true:=by simp only[vOnC,vOnT,RT.val,Yq h,Ya,okB]
theorem ZiH (s k:Int):ZiI s k=true/\ -1<=Zc4 s k/\Zc4 s k<=7:=by
 obtain⟨r,hr,h0,h1,h2⟩:=ZA (fl:=false) (t:=Zdv) (fuel:=λ_=>9)
  (λa=>∃(i:Nat) (m:Int),i<=8/\ -1<=m/\m<=7/\a=(s,k,m,(i:Int),()))
  (λa=>Int.toNat (8-a.2.2.2.1)) (λr=>r.1=false/\ -1<=r.2.2.2.1/\r.2.2.2.1<=7)
  (by
   rintro a ⟨i,m,hi,h1,h2,rfl⟩;by_cases hlt:i<8
   ·left;have d:decide ((i:Int)<8)=true:=Yq (by omega);have w:IntKind.wrap .i64 ((i:Int)+1)=((i+1:Nat):Int):=by rw[wrap_i64 _ (by omega) (by omega)];omega
    have c:vOnC s (i:Int)=true:=ZVa s (by omega);refine⟨(s,k,bif vOn s (i:Int)&&(decide (m<0)||decide (Zdd (i:Int) k<Zdd m k)) then (i:Int) else m,((i+1:Nat):Int),()),by simp only[Zdv,RT.val,d,c,w,Ya],⟨i+1,_,by omega,?_,?_,rfl⟩,by simp only;omega⟩
    ·cases vOn s (i:Int)&&(decide (m<0)||decide (Zdd (i:Int) k<Zdd m k))<;>simp only[Ya,Yb]<;>omega
    ·cases vOn s (i:Int)&&(decide (m<0)||decide (Zdd (i:Int) k<Zdd m k))<;>simp only[Ya,Yb]<;>omega
   ·right;left;have d:decide ((i:Int)<8)=false:=Yx (by omega)
    exact⟨(s,k,m,(i:Int),()),by simp only[Zdv,RT.val,d,Yb],rfl,h1,h2⟩)
  (s,k,-1,0,()) ⟨0,-1,by omega,by omega,by omega,rfl⟩ (by simp only;omega)
 obtain⟨r1,r2⟩:=r;simp only at h0 h1 h2;subst h0;have hv:(Zlj s k).val=some r2.2.2.1:=by simp only[Zlj,RT.val,hr,okB,getO,Ya]
 exact⟨by simp only[ZiI,hv];rfl,by simp only[Zc4,hv,getO];exact h1,by simp only[Zc4,hv,getO];exact h2⟩
theorem Zr6 (p:PICT):Zr7 p=true/\ -1<=vPck p/\vPck p<=7:=by
 have key:∀r m s k q,∃v:Int,(Zgt r m s k q).val=some v/\ -1<=v/\v<=7:=by
  intro r m s k q;have h1:=ZiH (ZY .u8 r m) k;have h2:=ZiH (ZcN m s q) k;simp only[Zgt,RT.val,h1.1,h2.1,Ya];cases decide (Zc4 (ZY .u8 r m) k>=0)&&(decide (Zc4 (ZcN m s q) k<0)||decide (Zdd (Zc4 (ZY .u8 r m) k) k<Zdd (Zc4 (ZcN m s q) k) k))
  ·exact⟨-1,rfl,by omega,by omega⟩
  ·exact⟨_,rfl,h1.2.1,h1.2.2⟩
 obtain⟨v,hv,h1,h2⟩:=key (vReq p) p.2.2.2.2.2.2.2.2.2.2.2.2.2.2.2.1 p.2.2.2.2.2.2.2.2.2.2.2.2.2.2.1 p.2.2.2.2.2.2.2.2.2.2.2.2.2.2.2.2.1 p.2.2.2.2.2.2.2.2.2.1;have e:(ZvW p).val=some v:=by simp only[ZvW,RT.val,ZmK,ZvV,hv,okB,getO,Ya]
 exact⟨by simp only[Zr7,e];rfl,by simp only[vPck,e,getO];exact h1,by simp only[vPck,e,getO];exact h2⟩
variable {x:Int}
theorem ZDw (p:PICT) (h:0<=x):ZhU p x=true:=by simp only[ZhU,ZvS,RT.val,Yq h,Ya,okB]
theorem ZDy (p:PICT) (h:0<=x):ZiJ p x=true:=by simp only[ZiJ,ZDz,RT.val,Yq h,Ya,okB]
theorem ZVe (p:PICT):ZQC p=true:=by
 have h1:=(Zr6 p).1;have h3:∀q:PICT,ZiJ q (andI .i64 p.2.2.2.2.2.2.2.2.2.2.2.2.2.2.2.2.2.2.1 7)=true:=λq=>ZDy q (and7 _).1
 have h2:∀q:PICT,(!decide (vPck p>=0)||ZhU q (vPck p))=true:=λq=>by
  by_cases h:vPck p>=0
  ·rw[ZDw q h,Yi]
  ·rw[Yx h];rfl
 unfold ZQC ZJG;simp only[RT.val,h1,h2,h3,Yi,Ya];cases p.2.2.2.2.2.2.2.2.2.2.2.2.2.2.2.2.2.1==0
 ·cases p.2.2.2.2.2.2.2.2.2.2.2.2.2.2.2.2.2.1==1
  ·rfl
  ·cases p.2.2.1<;>rfl
 ·rfl
theorem ZQz (p:PICT) (h:Bool):ZDx p h=true:=by
 have h1:=(Zr6 p).1;unfold ZDx ZvU;by_cases hx:0<=vPck p
 ·have h2:∀q:PICT,ZhU q (vPck p)=true:=λq=>ZDw q hx
  have h3:∀q:PICT,ZiJ q (vPck p)=true:=λq=>ZDy q hx
  simp only[RT.val,h1,h2,h3,ZbP,Za3,Yi,Yf,Ya];cases h
  ·cases p.2.2.2.2.2.2.2.2.2.2.2.1
   ·cases p.2.2.2.2.2.2.2.2.2.2.1<;>rfl
   ·cases decide (vPck p<0)<;>rfl
  ·rfl
 ·have h2:decide (vPck p<0)=true:=Yq (by omega);simp only[RT.val,h1,h2,ZbP,Za3,Yi,Yv,Yf,Ya];cases h
  ·cases p.2.2.2.2.2.2.2.2.2.2.2.1
   ·cases p.2.2.2.2.2.2.2.2.2.2.1<;>rfl
   ·rfl
  ·rfl
theorem ZQB (p:PICT) (v:Int):ZvY p v=true:=by
 have h1:=λs k=>(ZiH s k).1
 have h2:∀x:Int,(!decide (x>=0)||decide (0<=x))=true:=λx=>by by_cases h:0<=x<;>simp[h]
 have h3:decide (0<=IntKind.wrap .i64 (andI .u8 v 7))=true:=by have:=ZZM v;rw[wrap_i64 _ (by omega) (by omega)];exact Yq this.1
 unfold ZvY ZvX;simp only[RT.val,h1,h2,h3,ZbP,Za3,Yi,Yf,Ya];rfl
theorem ZJz (p:PICT) (h:Bool) (v:Int):Zr4 p h v=true:=by
 unfold Zr4 ZmH;simp only[RT.val,ZQB,Yi,Ya];cases h
 ·cases andI .u8 v 16 !=0
  ·cases andI .u8 v 8==0<;>rfl
  ·rfl
 ·rfl
theorem ZeR (o:Bool) {n:Int} (h:0<=n):ZfD o n=true:=by simp only[ZfD,ZQx,RT.val,Yq h,Yi,Ya];cases o<;>rfl
theorem ZGO (l:List INPT) (hl:l.length<=1000):ZDs l=true/\(ZmF l).length=4*l.length:=by
 have hms:=mst;obtain⟨r,hr,h0,h1⟩:=ZA (fl:=false) (t:=Zd6) (fuel:=λ_=>1000000000000)
  (λa=>∃(i:Nat) (o:List Int),i<=l.length/\o.length=4*i/\a=(l,(l.length:Int),(i:Int),o,()))
  (λa=>Int.toNat (a.2.1-a.2.2.1)) (λr=>r.1=false/\r.2.2.2.2.1.length=4*l.length)
  (by
   rintro a ⟨i,o,hi,ho,rfl⟩;by_cases hlt:i<l.length
   ·left;have d:decide ((i:Int)<(l.length:Int))=true:=Yq (by omega);have d2:decide ((i:Int)>=65536)=false:=Yx (by omega);have hin:Zf (i:Int) l.length=true:=ZT.2 ⟨by omega,by omega⟩;have w:IntKind.wrap .i64 ((i:Int)+1)=((i+1:Nat):Int):=by rw[wrap_i64 _ (by omega) (by omega)];omega
    have hb:∀a b c d:Int,Nat.ble (o++[a,b,c,d]).length most=true:=λa b c d=>ZaE (by simp;omega)
    have b0:=λx=>ZeR x (n:=0) (by decide)
    have b1:=λx=>ZeR x (n:=1) (by decide)
    have b2:=λx=>ZeR x (n:=2) (by decide)
    have b3:=λx=>ZeR x (n:=3) (by decide)
    have b4:=λx=>ZeR x (n:=4) (by decide)
    have b5:=λx=>ZeR x (n:=5) (by decide)
    have b6:=λx=>ZeR x (n:=6) (by decide)
    have b7:=λx=>ZeR x (n:=7) (by decide)
    have hv:∃a b c d:Int,(Zd6 (l,(l.length:Int),(i:Int),o,())).val=some (Go1.cont (l,(l.length:Int),((i+1:Nat):Int),o++[a,b,c,d],())):=by simp only[Zd6,RT.val,d,d2,hin,w,hb,b0,b1,b2,b3,b4,b5,b6,b7,ZbP,Za3,Yi,Yf,Yj,Yy,Ya,Yb];exact⟨_,_,_,_,rfl⟩
    obtain⟨a,b,c,d,hv⟩:=hv;exact⟨_,hv,⟨i+1,_,by omega,by simp;omega,rfl⟩,by simp only;omega⟩
   ·right;left;have d:decide ((i:Int)<(l.length:Int))=false:=Yx (by omega)
    exact⟨(l,(l.length:Int),(i:Int),o,()),by simp only[Zd6,RT.val,d,Yb],rfl,by simp only;omega⟩)
  (l,(l.length:Int),0,[],()) ⟨0,[],by omega,rfl,rfl⟩ (by simp only;omega)
 obtain⟨r1,r2⟩:=r;simp only at h0 h1;subst h0;have hv:(Zhf l).val=some r2.2.2.2.1:=by simp only[Zhf,RT.val,iN,Le,hr,okB,getO,Ya]
 exact⟨by simp only[ZDs,hv];rfl,by simp only[ZmF,hv,getO];exact h1⟩
abbrev MacT:=List ZG×List Cell×List Int×List (Int×Int)
def doX (x:Cyc) (m:MacT):Int×MacT:=
 bif x.1==1||(x.1==2||x.1==4) then (Zge m.1 m.2.1 x.2.1,m)
 else bif x.1==3||x.1==5 then (x.2.2.1,(m.1,ZaL m.1 m.2.1 x.2.1 x.2.2.1,m.2.2))
 else bif x.1==7 then (x.2.2.1,(m.1,m.2.1,m.2.2.1,m.2.2.2++[(IntKind.wrap .u8 x.2.1,x.2.2.1)]))
 else bif x.1==6||(x.1==8||x.1==9) then (m.2.2.1.getD 0 0,(m.1,m.2.1,m.2.2.1.drop 1,m.2.2.2))
 else (0,m)
def goX (c:CpuT) (s:Int):Nat->List Int->MacT->List Int×MacT
 |0,g,m=>(g,m)
 |n+1,g,m=>bif (Zh c s g).2 then goX c s n (g++[(doX (Zh c s g).1 m).1]) (doX (Zh c s g).1 m).2 else (g,m)
def ZiQ (c:CpuT) (s:Int) (l:LnT) (m:MacT):CpuT×MacT×List Int:=
 (finX (Zj c s) s (goX (Zj c s) s 6 [] m).1 l,(goX (Zj c s) s 6 [] m).2,(goX (Zj c s) s 6 [] m).1)
def noL:LnT:=(false,false,false,false,false,false,false,false,false)
def runX:Nat->CpuT->MacT->Int->CpuT×MacT×Int
 |0,c,m,u=>(c,m,u)
 |n+1,c,m,u=>bif c.2.2.2.2.1 then (c,m,u) else runX n (ZiQ c 0 noL m).1 (ZiQ c 0 noL m).2.1 (u+1)
variable {b:Bool}
theorem cle {x y:List Cyc} {n:Nat} (hx:x.length<=n) (hy:y.length<=n):(bif b then x else y).length<=n:=by cases b<;>assumption
theorem ZTs (c:CpuT) (inj:Bool) (g:List Int) (i:InsT):(Zga c inj g i).length<=4:=by
 unfold Zga;simp only[Zcn,Zik,ZdM,ZbZ,popX];repeat' apply cle
 all_goals first
  |(simp only[List.length_cons,List.length_nil,Yd];omega)
  |(cases i.2.2.1==6<;>cases Zbp c i<;>cases c.1==2<;>simp;done)
  |skip
theorem ZRA (c:CpuT) (s:Int) (g:List Int):(ZeO c s g).length<=5:=by
 have h:=λo=>ZTs c (s==5) g (Zc c.1 o)
 unfold ZeO;cases g with
 |nil=>exact cle (by simp[ZbZ]) (by simp)
 |cons o l=>exact cle (by simp[ZbZ]) (by simpa using h o)
def okK (x:Cyc):Bool:=(decide (1<=x.1)&&decide (x.1<=9))||x.2.2.1==0
theorem okc {x y:List Cyc} (hx:x.all okK=true) (hy:y.all okK=true):(bif b then x else y).all okK=true:=by cases b<;>assumption
theorem ZXY (c:CpuT) (inj:Bool) (g:List Int) (i:InsT):(Zga c inj g i).all okK=true:=by
 have h1:∀k,okK (opC c inj k)=true:=λk=>by cases inj<;>rfl
 have ha:∀(b:Bool) (x y:List Cyc),(bif b then x else y).all okK=bif b then x.all okK else y.all okK:=λb x y=>by cases b<;>rfl
 have hc:∀b:Bool,(bif b then true else true)=true:=λb=>by cases b<;>rfl
 have hk:∀(k a d s:Int),1<=k->k<=9->okK (k,a,d,s)=true:=λk a d s h1 h2=>by simp[okK,h1,h2]
 have h0:∀(k a s:Int),okK (k,a,0,s)=true:=λk a s=>by simp[okK]
 have h3:∀a d s,okK (3,a,d,s)=true:=λa d s=>hk 3 a d s (by omega) (by omega)
 have h5:∀a d s,okK (5,a,d,s)=true:=λa d s=>hk 5 a d s (by omega) (by omega)
 have h7:∀a d s,okK (7,a,d,s)=true:=λa d s=>hk 7 a d s (by omega) (by omega)
 simp only[Zga,Zcn,Zik,ZdM,ZbZ,popX,Zg4,ha,List.all_cons,List.all_nil,List.all_append,h1,h0,h3,h5,h7,YY,hc]
theorem ZV4 (c:CpuT) (s:Int) (g:List Int):(ZeO c s g).all okK=true:=by
 have h:=λo=>ZXY c (s==5) g (Zc c.1 o)
 have h5:∀a d s,okK (5,a,d,s)=true:=λa d s=>by rfl
 unfold ZeO;cases g with
 |nil=>exact okc (by simp[ZbZ,h5];rfl) (by simp[okK])
 |cons o l=>exact okc (by simp[ZbZ,h5];rfl) (by rw[List.all_cons,h o];simp[okK])
theorem ZW4 (c:CpuT) (s:Int) (g:List Int) (h:(Zh c s g).2=true):okK (Zh c s g).1=true:=by
 have hp:=ZV4 c s g;unfold Zh at*;generalize ZeO c s g=p at*;by_cases hg:g.length<p.length
 ·have:(pick p g.length).1∈p:=by simp[pick,hg,Yh] at h|-
  exact YV.1 hp _ this
 ·simp[pick,hg] at h
theorem ZFO (c:CpuT) (s:Int) (g:List Int) (h:5<=g.length):(Zh c s g).2=false:=by have hp:=ZRA c s g;unfold Zh;simp[pick];omega
theorem ZJl (l:List ZG) (m:List Cell) (t v:Int):Vld (ZaL l m t v):=by
 unfold ZaL;cases decide (Zck l t>=0)&&(R.get GR l (Zck l t)).2.2.1
 ·exact Zfn m
 ·exact Zs4 (Zfn m)
theorem Ze8 (l:List ZG) (m:List Cell) (t v:Int):(ZaL l m t v).length<=m.length+1:=by
 have h:=Zcx m;unfold ZaL;cases decide (Zck l t>=0)&&(R.get GR l (Zck l t)).2.2.1
 ·exact Yz h (YaJ _)
 ·exact Yz (Zs6 _ _) (by omega)
theorem ZUF (x:Cyc) (m:MacT):(doX x m).2.1=m.1/\(Vld m.2.1->Vld (doX x m).2.2.1)/\(doX x m).2.2.1.length<=m.2.1.length+1/\
  (doX x m).2.2.2.1.length<=m.2.2.1.length/\(doX x m).2.2.2.2.length<=m.2.2.2.length+1:=by
 unfold doX;have hl:=Ze8 m.1 m.2.1 x.2.1 x.2.2.1;have hv:=ZJl m.1 m.2.1 x.2.1 x.2.2.1;cases x.1==1||(x.1==2||x.1==4)
 ·cases x.1==3||x.1==5
  ·cases x.1==7
   ·cases x.1==6||(x.1==8||x.1==9)
    ·exact⟨rfl,id,by simp,by simp,by simp⟩
    ·exact⟨rfl,id,by simp,by simp,by simp⟩
   ·exact⟨rfl,id,by simp,by simp,by simp⟩
  ·exact⟨rfl,λ_=>hv,hl,by simp,by simp⟩
 ·exact⟨rfl,id,by simp,by simp,by simp⟩
def pre (o:List (Int×Int)) (m:MacT):MacT:=(m.1,m.2.1,m.2.2.1,o++m.2.2.2)
theorem ZQ6 (n:Nat) (c:CpuT) (m:MacT) (u:Int):runX (n+1) c m u=bif c.2.2.2.2.1 then (c,m,u) else runX n (ZiQ c 0 noL m).1 (ZiQ c 0 noL m).2.1 (u+1):=rfl
theorem ZUA (c:CpuT) (s:Int):∀(n:Nat) (g:List Int) (m:MacT),(goX c s n g m).2.1=m.1/\(Vld m.2.1->Vld (goX c s n g m).2.2.1)/\(goX c s n g m).2.2.1.length<=m.2.1.length+n/\
  (goX c s n g m).2.2.2.1.length<=m.2.2.1.length/\(goX c s n g m).2.2.2.2.length<=m.2.2.2.length+n
 |0,g,m=>⟨rfl,id,Ye _,Ye _,Ye _⟩
 |n+1,g,m=>by
  unfold goX;cases (Zh c s g).2
  ·exact⟨rfl,id,Nat.le_add_right _ _,Ye _,Nat.le_add_right _ _⟩
  ·have h1:=ZUF (Zh c s g).1 m;have h2:=ZUA c s n (g++[(doX (Zh c s g).1 m).1]) (doX (Zh c s g).1 m).2;exact⟨h2.1.trans h1.1,λh=>h2.2.1 (h1.2.1 h),Yz h2.2.2.1 (by omega),Yz h2.2.2.2.1 h1.2.2.2.1,Yz h2.2.2.2.2 (by omega)⟩
def hits (c:CpuT) (s t:Int) (g:List Int):Bool:=(Zh c s g).2&&((Zh c s g).1.2.1==t&&((Zh c s g).1.1==3||(Zh c s g).1.1==5))
