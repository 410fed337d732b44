import Derived.Test.YtpnjbfjomebppaaGreatRunL
import Derived.Test.YtpnjbfjomebppaaGreatS3New
open Go.Proofs.Tryz (prog)
open Go.IntKind (u8 u16 i64)
set_option linter.unusedSimpArgs false
open Go Go.S3 Go.Proofs
set_option linter.unusedVariables false
set_option maxRecDepth 100000
namespace Go.Proofs.YtpnjbfjomebppaaGreat
noncomputable section
def ZQf:LS:={n:=53,Sl:=[(3,.fix (A.loc 0 0)),(5,.tip 0),(6,.code (So R.bool)),(9,.code (So rcCE)),(10,.code (So Kc)),(11,.code (So Kc))],Bx:=[[.many (R.Pq Kb Ka)]],Sg:=[⟨(R.Pq Kb Ka),75,false⟩]}
def ZDw (a:QT9):RT (Option (Go1 (QT9))):=
 let x1:Int×Int:=R.get (R.Pq Kb Ka) a.2.1 a.2.2.2.1
 let x2:=x1.1
 let x3:= !a.1&&decide (x2>=a.2.2.2.2.1.1)
 let x4:List (Int×Int):=a.2.2.2.2.2.1++[a.2.2.2.2.1]
 let x5:= !x3||(!a.2.2.2.2.1.2 !=0||Nat.ble (Le x4) most)
 let x6:=x2 !=a.2.2.2.2.1.1
 let x7:List (Int×Int):=bif x3 then bif a.2.2.2.2.1.2 !=0 then x4 else a.2.2.2.2.2.1 else a.2.2.2.2.2.1
 let x8:List (Int×Int):=x7++[x1]
 .br (decide (a.2.2.2.1<a.2.2.1)) (.br (!Zf a.2.2.2.1 (Le a.2.1)||(!x5||(!x6||Nat.ble (Le x8) most))) (.br (!Zf a.2.2.2.1 (Le a.2.1)||x5) (.br (Zf a.2.2.2.1 (Le a.2.1)) (Ls (Go1.cont (x3||a.1,a.2.1,a.2.2.1,i64.wrap (a.2.2.2.1+1),a.2.2.2.2.1,bif x6 then x8 else x7,PUnit.unit))) Ln) Ln) Ln) (Ls (Go1.brk (a.1,a.2.1,a.2.2.1,a.2.2.2.1,a.2.2.2.2.1,a.2.2.2.2.2.1,PUnit.unit)))
def ZDx:Ora:=Zbr false ZQf ZDw (λa=>1000000000000)
theorem ZGg:Za1 (envX prog [] [] 511 8) (.block 0 (.loop (Z7 Tryz.f165.body 0))) ZDx:=
 loopP trivial
def ZDv (m:List (Int×Int)) (c:Int×Int):RT (Option (List (Int×Int))):=
 let x1:QT9:=(false,m,iN (Le m),0,c,[],())
 let x2:=runF false ZDw (λa=>1000000000000) x1
 let x3:QT9:=(getO (false,x1) x2).2
 let x4:=x3.2.2.2.2
 let x5:=x4.1
 let x6:= !x3.1&&x5.2 !=0
 let x7:=x4.2.1
 let x8:List (Int×Int):=x7++[x5]
 .br (okB x2) (.br (!x6||Nat.ble (Le x8) most) (Ls (bif x6 then x8 else x7)) Ln) Ln
def ZQg (m:List (Int×Int)) (c:Int×Int):List (Int×Int):=getO [] (ZDv m c).val
def ZDy (m:List (Int×Int)) (c:Int×Int):Bool:=okB (ZDv m c).val
def ZKg:En:=frzE (newE ZcN ZrM ZKi (λa=>some (ZDy a.1 a.2)) (λa=>ZQg a.1 a.2))
theorem ZKh:Zb prog 165 (newE ZcN ZrM ZKi (λa=>some (ZDy a.1 a.2)) (λa=>ZQg a.1 a.2)):=
 Zl1 (P:=prog) (n:=511) (k:=8) (l:=[]) (ol:=[(0,ZDx)]) trivial Tryz.func165 rfl (by kernel_rfl) Tryz.call165 ⟨ZGg,Tv⟩ (r:=ZcN) (T:=ZrM) (ts:=ZKi) (t:=λa=>ZDv a.1 a.2) (λa=>by kernel_rfl)
theorem ZDu:Zb prog 165 ZKg:=Zyi ZKh
def ZKn:LS:={n:=21,Sl:=[(3,.tip 0),(10,.code (So rcCE)),(11,.code (So Kc)),(12,.code (So Kc))],Bx:=[],Sg:=[⟨(R.Pq Kb Ka),75,false⟩]}
def Zgn (a:List (Int×Int)×Int×Int×List (Int×Int)×PUnit):RT (Option (Go1 (List (Int×Int)×Int×Int×List (Int×Int)×PUnit))):=
 .br (decide (a.2.2.1<a.2.1)) (.br (!Zf a.2.2.1 (Le a.1)||ZDy a.2.2.2.1 (R.get (R.Pq Kb Ka) a.1 a.2.2.1)) (.br (Zf a.2.2.1 (Le a.1)) (Ls (Go1.cont (a.1,a.2.1,i64.wrap (a.2.2.1+1),Stg.l (newG ZcN ZrM (ZQg a.2.2.2.1 (R.get (R.Pq Kb Ka) a.1 a.2.2.1))),PUnit.unit))) Ln) Ln) (Ls (Go1.brk (a.1,a.2.1,a.2.2.1,a.2.2.2.1,PUnit.unit)))
def Zv5:Ora:=Zbr false ZKn Zgn (λa=>1000000000000)
theorem ZzB:Za1 (envX prog [(105,Zsj),(165,ZKg)] [] 63 8) (.block 0 (.loop (Z7 Tryz.f93.body 0))) Zv5:=
 loopP ⟨ZqG,ZDu,Tv⟩
def Zj7 (l:List (Int×Int)):RT (Option (List (Int×Int))):=
 let x1:=runF false Zgn (λa=>1000000000000) (l,iN (Le l),0,[],())
 .br (smC l) (.br (!vldB l||Nat.ble (Le ([]++l)) most) (.br (vldB l) (Ls ([]++l)) (.br (okB x1) (Ls (getO (false,l,iN (Le l),0,[],()) x1).2.2.2.2.1) Ln)) Ln) Ln
def Zv6 (l:List (Int×Int)):List (Int×Int):=getO [] (Zj7 l).val
def Zm5 (l:List (Int×Int)):Bool:=okB (Zj7 l).val
def ZzC:En:=frzE (newE ZcN ZrM ZNE (λa=>some (Zm5 a)) (λa=>Zv6 a))
theorem ZGi:Zb prog 93 (newE ZcN ZrM ZNE (λa=>some (Zm5 a)) (λa=>Zv6 a)):=
 Zl1 (P:=prog) (n:=63) (k:=8) (l:=[(105,Zsj),(165,ZKg)]) (ol:=[(0,Zv5)]) ⟨ZqG,ZDu,Tv⟩ Tryz.func93 rfl (by kernel_rfl) Tryz.call93 ⟨ZzB,Tv⟩ (r:=ZcN) (T:=ZrM) (ts:=ZNE) (t:=λa=>Zj7 a) (λa=>by kernel_rfl)
theorem Zv4:Zb prog 93 ZzC:=Zyi ZGi
abbrev Zss:List Sh:=[So Kb,So (R.sl Ka)]
def ZKp:LS:={n:=27,Sl:=[(0,.code (So Kb)),(1,.code (So (R.sl Ka))),(5,.tip 0),(8,.code (So Kc)),(9,.code (So Kc))],Bx:=[],Sg:=[⟨(R.Pq Kb Ka),75,true⟩]}
def Zgo (a:QT28):RT (Option (Go1 (QT28))):=
 let x1:List (Int×Int):=a.2.2.2.2.1++[(u16.wrap (a.1+u16.wrap a.2.2.2.1),R.get Ka a.2.1 a.2.2.2.1)]
 let x2:= !Zf a.2.2.2.1 (Le a.2.1)||Nat.ble (Le x1) most
 .br (decide (a.2.2.2.1<a.2.2.1)) (.br (!x2||Zf a.2.2.2.1 (Le a.2.1)) (.br (x2) (Ls (Go1.cont (a.1,a.2.1,a.2.2.1,i64.wrap (a.2.2.2.1+1),x1,PUnit.unit))) Ln) Ln) (Ls (Go1.brk (a.1,a.2.1,a.2.2.1,a.2.2.2.1,a.2.2.2.2.1,PUnit.unit)))
def ZwK:Ora:=Zbr false ZKp Zgo (λa=>1000000000000)
theorem ZzE:Za1 (envX prog [(93,ZzC)] [] 127 8) (.block 0 (.loop (Z7 Tryz.f59.body 0))) ZwK:=
 loopP ⟨Zv4,Tv⟩
def Zm6 (t:Int) (b:List Int):RT (Option (List (Int×Int))):=
 let x1:=runF false Zgo (λa=>1000000000000) (t,b,iN (Le b),0,[],())
 let x2:List (Int×Int):=(getO (false,t,b,iN (Le b),0,[],()) x1).2.2.2.2.2.1
 .br (okB x1) (.br (Zm5 x2) (Ls (Stg.l (newG ZcN ZrM (Zv6 x2)))) Ln) Ln
def ZKq (t:Int) (b:List Int):List (Int×Int):=getO [] (Zm6 t b).val
def ZzF (t:Int) (b:List Int):Bool:=okB (Zm6 t b).val
theorem ZGk:Zb prog 59 (newE ZcN ZrM Zss (λa=>some (ZzF a.1 a.2)) (λa=>ZKq a.1 a.2)):=
 Zl1 (P:=prog) (n:=127) (k:=8) (l:=[(93,ZzC)]) (ol:=[(0,ZwK)]) ⟨Zv4,Tv⟩ Tryz.func59 rfl (by kernel_rfl) Tryz.call59 ⟨ZzE,Tv⟩ (r:=ZcN) (T:=ZrM) (ts:=Zss) (t:=λa=>Zm6 a.1 a.2) (λa=>by kernel_rfl)
end
end Go.Proofs.YtpnjbfjomebppaaGreat
open Go Go.S3 Go.Proofs Go.Proofs.Cells
namespace Go.Proofs.YtpnjbfjomebppaaGreat
noncomputable section
theorem ZJZ (m:List Cell) (c:Cell) (hv:Vld m) (hm:m.length+1<=most):ZDy m c=true/\ZQg m c=putX m c:=by have h:=ZvS m c hv hm;have e:ZDv m c=ZqH m c:=rfl;simp only[Zv2,ZKk,<-e] at h;exact h
theorem ZGc (l:List Cell) (hl:l.length+1<=most):Zm5 l=true/\Zv6 l=normX l:=by
 have hms:=mst;have hs:smC l=true:=(ZvI.2 hl:sm l=true);have hv:(Zj7 l).val=some (normX l):=by
  cases hb:vldB l with
  |true=>
   have e:Nat.ble l.length most=true:=by rw[YF];omega
   simp only[Zj7,RT.val,hs,hb,List.nil_append,e,Ya,Yf,Yi,Zhc (Ziq.1 hb)]
  |false=>
   obtain⟨r,hr,h1,i,hR⟩:=ZI (fl:=false) (t:=Zgn) (fuel:=λa=>1000000000000)
    (λa=>∃i:Nat,i<=l.length/\a=(l,(l.length:Int),(i:Int),normX (l.take i),()))
    (λa=>Int.toNat (a.2.1-a.2.2.1)) (λr=>r.1=false/\∃i:Nat,r.2=(l,(l.length:Int),(i:Int),normX l,()))
    (by
     rintro a ⟨i,hi,rfl⟩;by_cases hlt:i<l.length
     ·left;have d:decide ((i:Int)<(l.length:Int))=true:=by simpa using hlt
      have r1:=ZaP l i hlt;have hlen:=Zel (l.take i);rw[YJ] at hlen;have hp:=ZJZ (normX (l.take i)) (el l i) (Zi9 _) (by omega);refine⟨_,?_,⟨i+1,hlt,rfl⟩,by simp only;omega⟩;rw[Zy4 l i hlt,Zkr];simp only[Zgn,RT.val,d,r1,ZcX,hp.1,hp.2,Ya,Yj,Zik i (by omega)]
     ·right;left;have d:decide ((i:Int)<(l.length:Int))=false:=by simpa using hlt
      have e:l.take i=l:=Y0 (by omega);rw[e]
      exact⟨_,by simp only[Zgn,RT.val,d,Yb],rfl,i,rfl⟩)
    (l,iN l.length,0,[],()) ⟨0,Yq _,rfl⟩ (by simp only[iN,Le];omega)
   obtain⟨r1,r2⟩:=r;simp only at h1 hR;subst h1 hR;simp only[Zj7,RT.val,hs,hb,hr,okB,getO,Ya,Yb,Yl,Yv]
 exact⟨by simp only[Zm5,hv];rfl,by simp only[Zv6,hv,getO]⟩
theorem ZGd (t:Int) (b:List Int) (hb:b.length+1<=most):ZzF t b=true/\ZKq t b=Zo4 t b:=by
 have hms:=mst;obtain⟨r,hr,h1,hR⟩:=ZI (fl:=false) (t:=Zgo) (fuel:=λa=>1000000000000)
  (λa=>∃i:Nat,i<=b.length/\a=(t,b,(b.length:Int),(i:Int),Zo6 t b i,()))
  (λa=>Int.toNat (a.2.2.1-a.2.2.2.1)) (λr=>r.1=false/\r.2=(t,b,(b.length:Int),(b.length:Int),Zo6 t b b.length,()))
  (by
   rintro a ⟨i,hi,rfl⟩;by_cases hlt:i<b.length
   ·left;have d:decide ((i:Int)<(b.length:Int))=true:=by simpa using hlt
    have r1:=ZaP b i hlt;have hl:∀x:Cell,Nat.ble (Zo6 t b i++[x]).length most=true:=λx=>by rw[YF,Yd,Zo5];simp only[List.length_singleton];omega
    refine⟨_,?_,⟨i+1,hlt,rfl⟩,by simp only;omega⟩;rw[ZH2];have g:=get_d b i;simp only[Zgo,RT.val,d,r1,g,hl,Ya,Yf,Yi,Zik i (by omega)]
   ·right;left;have d:decide ((i:Int)<(b.length:Int))=false:=by simpa using hlt
    have e:i=b.length:=by omega
    subst e
    exact⟨_,by simp only[Zgo,RT.val,d,Yb],rfl,rfl⟩)
  (t,b,iN b.length,0,[],()) ⟨0,Yq _,rfl⟩ (by simp only[iN,Le];omega)
 obtain⟨r1,r2⟩:=r;simp only at h1 hR;subst h1 hR;have hn:=ZGc (Zo6 t b b.length) (by rw[Zo5];exact hb);have hv:(Zm6 t b).val=some (Zo4 t b):=by simp only[Zm6,RT.val,hr,okB,getO,Ya,hn.1,hn.2,Zo4]
 exact⟨by simp only[ZzF,hv];rfl,by simp only[ZKq,hv,getO]⟩
def ZlL:En:=frzE (newE ZcN ZrM Zss (λa=>some (smB a.2)) (λa=>Zo4 a.1 a.2))
theorem Zj8:Zb Tryz.prog 59 ZlL:=Zyi (ZHL ZGk λa _ h=>by
 have hb:smB a.2=true:=by cases hq:smB a.2 with
  |true=>rfl
  |false=>rw[hq] at h;exact absurd rfl h
 obtain⟨h1,h2⟩:=ZGd a.1 a.2 (ZvI.1 hb)
 exact⟨by rw[h1];simp,h2⟩)
def ZE9 (s:List Int×Int):RT (Option (Bool×List Int×Int)):=
 .br (Zl s 2) (Ls (((Za s 2).1==1,(Za s 2).2))) Ln
def Zai (s:List Int×Int):Bool×List Int×Int:=getO (ZnL.Df,ZBR.Df) (ZE9 s).val
def Zbq (s:List Int×Int):Bool:=okB (ZE9 s).val
def ZTw:En:=boxE ZBR ZwN ZnL (λa=>some (Zbq a.1)) (λa=>Zai a.1)
theorem ZRw:Zb prog 69 ZTw:=
 ZcA (P:=prog) (n:=7) (k:=8) (l:=[(68,ZcS)]) (ol:=[]) ⟨Zbb,Tv⟩ Tryz.func69 rfl (by kernel_rfl) Tryz.call69 trivial (rb:=ZBR) (ts:=ZwN) (rs:=ZnL) (t:=λa=>ZE9 a.1) (λa=>by kernel_rfl)
abbrev ZdY:R:=R.Pq Kb (R.Pq Kb (R.Pq R.bool Kc))
abbrev ZdZ:Nat:=110
def ZBN:LS:={n:=44,Sl:=[(0,.fix (A.loc 0 0)),(5,.tip 0),(6,.code (So Kc))],Bx:=[[.many (R.Pq (R.sl Kc) Kc)]],Sg:=[⟨(R.Pq Kb (R.Pq Kb (R.Pq R.bool Kc))),110,false⟩]}
def ZbZ (a:QT20):RT (Option (Go1 (QT20))):=
 let x1:= !Zl (ZaR a.2.1).2 6||Zf (Za (ZaR a.2.1).2 6).1 (Le [0,3,15,255,4095,65535])
 let x2:= !x1
 let x3:= !Zl (Za (Za (ZaR a.2.1).2 6).2 3).2 5
 let x4:Int:=(Za (Za (Za (ZaR a.2.1).2 6).2 3).2 5).1
 let x5:=Zf x4 (Le [0,0,1,2,5])
 let x6:=i64.wrap (i64.wrap (ZaR a.2.1).1+R.get Kc [0,3,15,255,4095,65535] (Za (ZaR a.2.1).2 6).1)
 let x7:List (QT7):=a.2.2.1++[((ZaR a.2.1).1,u16.wrap (if 65535<x6 then 65535 else x6),decide ((Za (Za (ZaR a.2.1).2 6).2 3).1>0),R.get Kc [0,0,1,2,5] x4)]
 let x8:= !Zl (Za (ZaR a.2.1).2 6).2 3||(x3||(!x5||Nat.ble (Le x7) most))
 let x9:= !x8
 let x10:= !Zl (Za (ZaR a.2.1).2 6).2 3||(x3||x5)
 let x11:= !x10
 let x12:= !Zl (Za (ZaR a.2.1).2 6).2 3||Zl (Za (Za (ZaR a.2.1).2 6).2 3).2 5
 .br (decide (a.1>0)) (.br (!ZfY a.2.1||(x2||(!Zl (ZaR a.2.1).2 6||(x9||(x11||(!x12||Zl (Za (ZaR a.2.1).2 6).2 3)))))) (.br (!ZfY a.2.1||(x2||(!Zl (ZaR a.2.1).2 6||(x9||(x11||x12))))) (.br (!ZfY a.2.1||(x2||(!Zl (ZaR a.2.1).2 6||(x9||x10)))) (.br (!ZfY a.2.1||(x2||(!Zl (ZaR a.2.1).2 6||x8))) (.br (!ZfY a.2.1||(x2||Zl (ZaR a.2.1).2 6)) (.br (!ZfY a.2.1||x1) (.br (ZfY a.2.1) (Ls (Go1.cont (i64.wrap (a.1-1),(Za (Za (Za (ZaR a.2.1).2 6).2 3).2 5).2,x7,PUnit.unit))) Ln) Ln) Ln) Ln) Ln) Ln) Ln) (Ls (Go1.brk (a.1,a.2.1,a.2.2.1,PUnit.unit)))
def ZoF:Ora:=Zbr false ZBN ZbZ (λa=>400)
theorem Zum:Za1 (envX prog [(68,ZcS),(70,ZNi)] [] 511 8) (.block 0 (.loop (Z7 Tryz.f188.body 0))) ZoF:=
 loopP ⟨Zbb,ZE4,Tv⟩
def Zen (s:List Int×Int) (n:Int):RT (Option (List (QT7)×List Int×Int)):=
 let x1:QT20:=((Za s (i64.wrap (n+1))).1,(Za s (i64.wrap (n+1))).2,[],())
 let x2:=runF false ZbZ (λa=>400) x1
 let x3:(List Int×Int)×List (QT7)×PUnit:=(getO (false,x1) x2).2.2
 .br (Zl s (i64.wrap (n+1))) (.br (okB x2) (Ls ((x3.2.1,x3.1))) Ln) Ln
def ZU (s:List Int×Int) (n:Int):List (QT7)×List Int×Int:=getO ([],ZBR.Df) (Zen s n).val
def Zb0 (s:List Int×Int) (n:Int):Bool:=okB (Zen s n).val
def ZxB:En:=frzE (ZHN ZBR ZdY ZdZ Zw8 (λa=>some (Zb0 a.1 a.2)) (λa=>ZU a.1 a.2))
theorem ZxC:Zb prog 188 (ZHN ZBR ZdY ZdZ Zw8 (λa=>some (Zb0 a.1 a.2)) (λa=>ZU a.1 a.2)):=
 ZNg (P:=prog) (n:=511) (k:=8) (l:=[(68,ZcS),(70,ZNi)]) (ol:=[(0,ZoF)]) ⟨Zbb,ZE4,Tv⟩ Tryz.func188 rfl (by kernel_rfl) Tryz.call188 ⟨Zum,Tv⟩ (rb:=ZBR) (r:=ZdY) (T:=ZdZ) (ts:=Zw8) (t:=λa=>Zen a.1 a.2) (λa=>by kernel_rfl)
theorem ZBL:Zb prog 188 ZxB:=Zyi ZxC
abbrev ZNl:Rs:=Rs.one (So rcRG)
def ZBT (s:List Int×Int):RT (Option (List (QT7)×List Int×Int)):=
 let x1:List (QT7):=Stg.l (newG ZdY ZdZ (ZU s 2).1)++[(0,65535,true,i64.wrap (Int.tdiv (Za (ZU s 2).2 3).1 2))]
 .br (!Zb0 s 2||(!Zl (ZU s 2).2 3||Nat.ble (Le x1) most)) (.br (!Zb0 s 2||Zl (ZU s 2).2 3) (.br (Zb0 s 2) (Ls ((x1,(Za (ZU s 2).2 3).2))) Ln) Ln) Ln
def nMap (s:List Int×Int):List (QT7)×List Int×Int:=getO (ZNl.Df,ZBR.Df) (ZBT s).val
def ZHQ (s:List Int×Int):Bool:=okB (ZBT s).val
def ZWb:En:=boxE ZBR ZwN ZNl (λa=>some (ZHQ a.1)) (λa=>nMap a.1)
theorem ZNk:Zb prog 123 ZWb:=
 ZcA (P:=prog) (n:=7) (k:=8) (l:=[(68,ZcS),(188,ZxB)]) (ol:=[]) ⟨Zbb,ZBL,Tv⟩ Tryz.func123 rfl (by kernel_rfl) Tryz.call123 trivial (rb:=ZBR) (ts:=ZwN) (rs:=ZNl) (t:=λa=>ZBT a.1) (λa=>by kernel_rfl)
def ZBP:LS:={n:=75,Sl:=[(0,.fix (A.loc 0 0)),(5,.tip 0),(6,.code (So Kc))],Bx:=[[.many (R.Pq (R.sl Kc) Kc)]],Sg:=[⟨Ka,5,true⟩]}
def Zde (a:QT26):RT (Option (Go1 (QT26))):=
 let x1:=Zf (Za (Za a.2.1 8).2 4).1 (Le [33,49,1,17])
 let x2:= !x1
 let x3:=Zl (Za (Za (Za a.2.1 8).2 4).2 256).2 4
 let x4:= !x3
 let x5:=Za (Za (Za (Za a.2.1 8).2 4).2 256).2 4
 let x6:=x5.1
 let x7:=Zf x6 (Le [0,0,1,255])
 let x8:List Int:=a.2.2.1++[R.get Ka [33,49,1,17] (Za (Za a.2.1 8).2 4).1,u8.wrap (Za (Za (Za a.2.1 8).2 4).2 256).1,R.get Ka [0,0,1,255] x6]
 let x9:= !(Za a.2.1 8).1==0||(!Zl (Za a.2.1 8).2 4||(x2||(!Zl (Za (Za a.2.1 8).2 4).2 256||(x4||(!x7||Nat.ble (Le x8) most)))))
 let x10:= !x9
 let x11:= !(Za a.2.1 8).1==0||(!Zl (Za a.2.1 8).2 4||(x2||(!Zl (Za (Za a.2.1 8).2 4).2 256||(x4||x7))))
 let x12:= !x11
 let x13:= !(Za a.2.1 8).1==0||(!Zl (Za a.2.1 8).2 4||(x2||(!Zl (Za (Za a.2.1 8).2 4).2 256||x3)))
 let x14:= !x13
 let x15:= !(Za a.2.1 8).1==0||(!Zl (Za a.2.1 8).2 4||(x2||Zl (Za (Za a.2.1 8).2 4).2 256))
 let x16:= !x15
 let x17:= !(Za a.2.1 8).1==0||(!Zl (Za a.2.1 8).2 4||x1)
 let x18:= !x17
 let x19:= !(Za a.2.1 8).1==0||Zl (Za a.2.1 8).2 4
 let x20:= !x19
 let x21:List Int:=a.2.2.1++[62,(Zc3 (Za a.2.1 8).2).1,211,u8.wrap (Za (Zc3 (Za a.2.1 8).2).2 8).1]
 let x22:=(Za a.2.1 8).1==0||(!(Za a.2.1 8).1==1||(!ZgC (Za a.2.1 8).2||(!Zl (Zc3 (Za a.2.1 8).2).2 8||Nat.ble (Le x21) most)))
 let x23:= !x22
 let x24:=(Za a.2.1 8).1==0||(!(Za a.2.1 8).1==1||(!ZgC (Za a.2.1 8).2||Zl (Zc3 (Za a.2.1 8).2).2 8))
 let x25:= !x24
 let x26:=(Za a.2.1 8).1==0||(!(Za a.2.1 8).1==1||ZgC (Za a.2.1 8).2)
 let x27:= !x26
 let x28:=(Za a.2.1 8).1==0||((Za a.2.1 8).1==1||(!(Za a.2.1 8).1==2||Nat.ble (Le (a.2.2.1++[251])) most))
 let x29:= !x28
 let x30:List Int:=a.2.2.1++[62,u8.wrap (i64.wrap (16+(Za (Za a.2.1 8).2 16).1)),211,0,62,(Zc3 (Za (Za a.2.1 8).2 16).2).1,211,1,62,0,211,1]
 let x31:=(Za a.2.1 8).1==0||((Za a.2.1 8).1==1||((Za a.2.1 8).1==2||(!(Za a.2.1 8).1==3||(!Zl (Za a.2.1 8).2 16||(!ZgC (Za (Za a.2.1 8).2 16).2||Nat.ble (Le x30) most)))))
 let x32:= !x31
 let x33:=(Za a.2.1 8).1==0||((Za a.2.1 8).1==1||((Za a.2.1 8).1==2||(!(Za a.2.1 8).1==3||(!Zl (Za a.2.1 8).2 16||ZgC (Za (Za a.2.1 8).2 16).2))))
 let x34:= !x33
 let x35:=(Za a.2.1 8).1==0||((Za a.2.1 8).1==1||((Za a.2.1 8).1==2||(!(Za a.2.1 8).1==3||Zl (Za a.2.1 8).2 16)))
 let x36:= !x35
 let x37:= !Zl (Za (Zam (Za a.2.1 8).2).2 64).2 4
 let x38:Int:=(Za (Za (Zam (Za a.2.1 8).2).2 64).2 4).1
 let x39:=Zf x38 (Le [0,0,1,255])
 let x40:List Int:=a.2.2.1++[(Zam (Za a.2.1 8).2).1,u8.wrap (Za (Zam (Za a.2.1 8).2).2 64).1,R.get Ka [0,0,1,255] x38]
 let x41:=(Za a.2.1 8).1==0||((Za a.2.1 8).1==1||((Za a.2.1 8).1==2||((Za a.2.1 8).1==3||(!Zcg (Za a.2.1 8).2||(!Zl (Zam (Za a.2.1 8).2).2 64||(x37||(!x39||Nat.ble (Le x40) most)))))))
 let x42:= !x41
 let x43:=(Za a.2.1 8).1==0||((Za a.2.1 8).1==1||((Za a.2.1 8).1==2||((Za a.2.1 8).1==3||(!Zcg (Za a.2.1 8).2||(!Zl (Zam (Za a.2.1 8).2).2 64||(x37||x39))))))
 let x44:= !x43
 let x45:=(Za a.2.1 8).1==0||((Za a.2.1 8).1==1||((Za a.2.1 8).1==2||((Za a.2.1 8).1==3||(!Zcg (Za a.2.1 8).2||(!Zl (Zam (Za a.2.1 8).2).2 64||Zl (Za (Zam (Za a.2.1 8).2).2 64).2 4)))))
 let x46:= !x45
 let x47:=(Za a.2.1 8).1==0||((Za a.2.1 8).1==1||((Za a.2.1 8).1==2||((Za a.2.1 8).1==3||(!Zcg (Za a.2.1 8).2||Zl (Zam (Za a.2.1 8).2).2 64))))
 let x48:=x10||(x12||(x14||(x16||(x18||(x20||(x23||(x25||(x27||(x29||(x32||(x34||(x36||(x42||(x44||(x46||(!x47||((Za a.2.1 8).1==0||((Za a.2.1 8).1==1||((Za a.2.1 8).1==2||((Za a.2.1 8).1==3||Zcg (Za a.2.1 8).2))))))))))))))))))))
 let x49:= !x48
 let x50:=x10||(x12||(x14||(x16||(x18||(x20||(x23||(x25||(x27||(x29||(x32||(x34||(x36||(x42||(x44||(x46||x47)))))))))))))))
 let x51:= !x50
 let x52:=x10||(x12||(x14||(x16||(x18||(x20||(x23||(x25||(x27||(x29||(x32||(x34||(x36||(x42||(x44||x45))))))))))))))
 let x53:= !x52
 let x54:=x10||(x12||(x14||(x16||(x18||(x20||(x23||(x25||(x27||(x29||(x32||(x34||(x36||(x42||x43)))))))))))))
 let x55:= !x54
 let x56:=x10||(x12||(x14||(x16||(x18||(x20||(x23||(x25||(x27||(x29||(x32||(x34||(x36||x41))))))))))))
 let x57:= !x56
 let x58:=x10||(x12||(x14||(x16||(x18||(x20||(x23||(x25||(x27||(x29||(x32||(x34||x35)))))))))))
 let x59:= !x58
 let x60:=x10||(x12||(x14||(x16||(x18||(x20||(x23||(x25||(x27||(x29||(x32||x33))))))))))
 let x61:= !x60
 let x62:=x10||(x12||(x14||(x16||(x18||(x20||(x23||(x25||(x27||(x29||x31)))))))))
 let x63:= !x62
 let x64:=x10||(x12||(x14||(x16||(x18||(x20||(x23||(x25||(x27||x28))))))))
 let x65:= !x64
 let x66:=x10||(x12||(x14||(x16||(x18||(x20||(x23||(x25||x26)))))))
 let x67:= !x66
 let x68:=x10||(x12||(x14||(x16||(x18||(x20||(x23||x24))))))
 let x69:= !x68
 let x70:=x10||(x12||(x14||(x16||(x18||(x20||x22)))))
 let x71:= !x70
 let x72:=x10||(x12||(x14||(x16||(x18||x19))))
 let x73:= !x72
 let x74:=x10||(x12||(x14||(x16||x17)))
 let x75:= !x74
 let x76:=x10||(x12||(x14||x15))
 let x77:= !x76
 let x78:=x10||(x12||x13)
 let x79:= !x78
 let x80:=x10||x11
 let x81:List Int×Int:=(Za (Za (Zam (Za a.2.1 8).2).2 64).2 4).2
 .br (decide (a.1>0)) (.br (!Zl a.2.1 8||(x49||(x51||(x53||(x55||(x57||(x59||(x61||(x63||(x65||(x67||(x69||(x71||(x73||(x75||(x77||(x79||(!x80||x9)))))))))))))))))) (.br (!Zl a.2.1 8||(x49||(x51||(x53||(x55||(x57||(x59||(x61||(x63||(x65||(x67||(x69||(x71||(x73||(x75||(x77||(x79||x80))))))))))))))))) (.br (!Zl a.2.1 8||(x49||(x51||(x53||(x55||(x57||(x59||(x61||(x63||(x65||(x67||(x69||(x71||(x73||(x75||(x77||x78)))))))))))))))) (.br (!Zl a.2.1 8||(x49||(x51||(x53||(x55||(x57||(x59||(x61||(x63||(x65||(x67||(x69||(x71||(x73||(x75||x76))))))))))))))) (.br (!Zl a.2.1 8||(x49||(x51||(x53||(x55||(x57||(x59||(x61||(x63||(x65||(x67||(x69||(x71||(x73||x74)))))))))))))) (.br (!Zl a.2.1 8||(x49||(x51||(x53||(x55||(x57||(x59||(x61||(x63||(x65||(x67||(x69||(x71||x72))))))))))))) (.br (!Zl a.2.1 8||(x49||(x51||(x53||(x55||(x57||(x59||(x61||(x63||(x65||(x67||(x69||x70)))))))))))) (.br (!Zl a.2.1 8||(x49||(x51||(x53||(x55||(x57||(x59||(x61||(x63||(x65||(x67||x68))))))))))) (.br (!Zl a.2.1 8||(x49||(x51||(x53||(x55||(x57||(x59||(x61||(x63||(x65||x66)))))))))) (.br (!Zl a.2.1 8||(x49||(x51||(x53||(x55||(x57||(x59||(x61||(x63||x64))))))))) (.br (!Zl a.2.1 8||(x49||(x51||(x53||(x55||(x57||(x59||(x61||x62)))))))) (.br (!Zl a.2.1 8||(x49||(x51||(x53||(x55||(x57||(x59||x60))))))) (.br (!Zl a.2.1 8||(x49||(x51||(x53||(x55||(x57||x58)))))) (.br (!Zl a.2.1 8||(x49||(x51||(x53||(x55||x56))))) (.br (!Zl a.2.1 8||(x49||(x51||(x53||x54)))) (.br (!Zl a.2.1 8||(x49||(x51||x52))) (.br (!Zl a.2.1 8||(x49||x50)) (.br (!Zl a.2.1 8||x48) (.br (Zl a.2.1 8) (.br ((Za a.2.1 8).1==0) (Ls (Go1.cont (i64.wrap (a.1-1),x5.2,x8,PUnit.unit))) (.br ((Za a.2.1 8).1==1) (Ls (Go1.cont (i64.wrap (a.1-1),(Za (Zc3 (Za a.2.1 8).2).2 8).2,x21,PUnit.unit))) (.br ((Za a.2.1 8).1==2) (Ls (Go1.cont (i64.wrap (a.1-1),(Za a.2.1 8).2,a.2.2.1++[251],PUnit.unit))) (Ls (Go1.cont (i64.wrap (a.1-1),(bif (Za a.2.1 8).1==3 then (Zc3 (Za (Za a.2.1 8).2 16).2).2.1 else x81.1,bif (Za a.2.1 8).1==3 then (Zc3 (Za (Za a.2.1 8).2 16).2).2.2 else x81.2),bif (Za a.2.1 8).1==3 then x30 else x40,PUnit.unit)))))) Ln) Ln) Ln) Ln) Ln) Ln) Ln) Ln) Ln) Ln) Ln) Ln) Ln) Ln) Ln) Ln) Ln) Ln) Ln) (Ls (Go1.brk (a.1,a.2.1,a.2.2.1,PUnit.unit)))
def ZoH:Ora:=Zbr false ZBP Zde (λa=>400)
theorem Zun:Za1 (envX prog [(68,ZcS),(71,ZxI),(119,Zhf)] [] 9511883889056940159 8) (.block 0 (.loop (Z7 Tryz.f124.body 0))) ZoH:=
 loopP ⟨Zbb,Zl3,Zfa,Tv⟩
def ZgA (s:List Int×Int) (n:Int):RT (Option (List Int×List Int×Int)):=
 let x1:QT26:=((Za s (i64.wrap (n+1))).1,(Za s (i64.wrap (n+1))).2,[],())
 let x2:=runF false Zde (λa=>400) x1
 let x3:(List Int×Int)×List Int×PUnit:=(getO (false,x1) x2).2.2
 .br (Zl s (i64.wrap (n+1))) (.br (okB x2) (Ls ((x3.2.1,x3.1))) Ln) Ln
def Zcf (s:List Int×Int) (n:Int):List Int×List Int×Int:=getO (ZII.Df,ZBR.Df) (ZgA s n).val
def ZgB (s:List Int×Int) (n:Int):Bool:=okB (ZgA s n).val
def ZoI:En:=boxE ZBR Zw8 ZII (λa=>some (ZgB a.1 a.2)) (λa=>Zcf a.1 a.2)
theorem ZoG:Zb prog 124 ZoI:=
 ZcA (P:=prog) (n:=9511883889056940159) (k:=8) (l:=[(68,ZcS),(71,ZxI),(119,Zhf)]) (ol:=[(0,ZoH)]) ⟨Zbb,Zl3,Zfa,Tv⟩ Tryz.func124 rfl (by kernel_rfl) Tryz.call124 ⟨Zun,Tv⟩ (rb:=ZBR) (ts:=Zw8) (rs:=ZII) (t:=λa=>ZgA a.1 a.2) (λa=>by kernel_rfl)
abbrev Zuq:Rs:=Rs.one (Sh.agg (R.Pq Kc (R.Pq rcRG (R.Pq Kc (R.Pq Ka (R.Pq Ka (R.Pq R.bool rcCE)))))))
def ZNt:LS:={n:=50,Sl:=[(0,.fix (A.loc 0 0)),(2,.fix (A.loc 1 0)),(3,.fix (A.loc 2 0)),(4,.tip 0),(5,.code (So Kc))],Bx:=[[.many (R.Pq (R.sl Kc) Kc)],[.many (R.Pq Kc (R.Pq rcRG (R.Pq Kc (R.Pq Ka (R.Pq Ka (R.Pq R.bool rcCE))))))],[.many (R.Pq Kc (R.Pq rcRG (R.Pq Kc (R.Pq Ka (R.Pq Ka (R.Pq R.bool rcCE))))))]],Sg:=[⟨R.Pq Kb Ka,75,true⟩]}
def Zfc (a:QT19):RT (Option (Go1 (QT19))):=
 let x1:=Zf (Za a.2.1 6).1 (Le [36,60,52,44,56,32])
 let x2:= !x1
 let x3:List Int:=[(Zam (Za a.2.1 6).2).1,251,201]
 let x4:=smB x3
 let x5:List (Int×Int):=a.2.2.2.2.1++Stg.l (newG ZcN ZrM (Zo4 (u16.wrap (R.get Kc [36,60,52,44,56,32] (Za a.2.1 6).1)) x3))
 let x6:= !Zl a.2.1 6||(x2||(!Zcg (Za a.2.1 6).2||(!x4||Nat.ble (Le x5) most)))
 let x7:= !x6
 let x8:= !Zl a.2.1 6||(x2||(!Zcg (Za a.2.1 6).2||x4))
 let x9:= !x8
 let x10:= !Zl a.2.1 6||(x2||Zcg (Za a.2.1 6).2)
 let x11:= !x10
 let x12:= !Zl a.2.1 6||x1
 .br (decide (a.1>0)) (.br (x7||(x9||(x11||(!x12||Zl a.2.1 6)))) (.br (x7||(x9||(x11||x12))) (.br (x7||(x9||x10)) (.br (x7||x8) (.br (x6) (Ls (Go1.cont (i64.wrap (a.1-1),(Zam (Za a.2.1 6).2).2,a.2.2.1,a.2.2.2.1,x5,PUnit.unit))) Ln) Ln) Ln) Ln) Ln) (Ls (Go1.brk (a.1,a.2.1,a.2.2.1,a.2.2.2.1,a.2.2.2.2.1,PUnit.unit)))
def ZxK:Ora:=Zbr false ZNt Zfc (λa=>400)
theorem ZB0:Za1 (envX prog [(59,ZlL),(68,ZcS),(71,ZxI),(93,ZzD),(119,Zhf),(122,ZNq),(123,ZWb),(124,ZoI)] [] 63 8) (.block 0 (.loop (Z7 Tryz.f66.body 0))) ZxK:=
 loopP ⟨Zj8,Zbb,Zl3,Zv7,Zfa,ZFa,ZNk,ZoG,Tv⟩
def ZoT (s:List Int×Int):RT (Option (BRDT×List Int×Int)):=
 let x1:=(Za (Za (Za (nMap (Za0 s).2).2 3).2 4).2 6).1==0
 let x2:= !x1
 let x3:List Int×Int:=(Za (Za (Za (nMap (Za0 s).2).2 3).2 4).2 6).2
 let x4:=ZgC x3
 let x5:=Zc3 x3
 let x6:=x5.2
 let x7:=Zc3 x6
 let x8:=x7.2
 let x9:List Int×Int:=(bif x1 then x8.1 else x3.1,bif x1 then x8.2 else x3.2)
 let x10:=ZgB x9 12
 let x11:=Zcf x9 12
 let x12:=x11.1
 let x13:=x11.2
 let x14:=Za x13 4
 let x15:QT19:=(x14.1,x14.2,(0,[],0,0,0,false,[]),((Za0 s).1,(nMap (Za0 s).2).1,(Za (nMap (Za0 s).2).2 3).1,bif x1 then x5.1 else 0,bif x1 then x7.1 else 4,(Za (Za (nMap (Za0 s).2).2 3).2 4).1==0,[]),Stg.l (newG ZcN ZrM (Zo4 0 x12)),())
 let x16:=runF false Zfc (λa=>400) x15
 let x17:(List Int×Int)×BRDT×BRDT×List (Int×Int)×PUnit:=(getO (false,x15) x16).2.2
 let x18:=x17.2.2
 let x19:=x18.2.1
 let x20:=x18.1
 let x21:=x20.2
 let x22:=x21.2
 let x23:=x22.2
 let x24:=x23.2
 .br (!ZoR s||(!ZHQ (Za0 s).2||(!Zl (nMap (Za0 s).2).2 3||Zl (Za (nMap (Za0 s).2).2 3).2 4))) (.br (!ZoR s||(!ZHQ (Za0 s).2||Zl (nMap (Za0 s).2).2 3)) (.br (!ZoR s||ZHQ (Za0 s).2) (.br (ZoR s) (.br (Zl (Za (Za (nMap (Za0 s).2).2 3).2 4).2 6) (.br (x2||(!x4||ZgC x6)) (.br (x2||x4) (.br (!x10||smB x12) (.br (x10) (.br (Zl x13 4) (.br (okB x16) (.br (smC x19) (Ls (((x20.1,x21.1,x22.1,x23.1,x24.1,x24.2.1,Cells.normX x19),x17.1))) Ln) Ln) Ln) Ln) Ln) Ln) Ln) Ln) Ln) Ln) Ln) Ln
def Zcu (s:List Int×Int):BRDT×List Int×Int:=getO (Zuq.Df,ZBR.Df) (ZoT s).val
def ZoU (s:List Int×Int):Bool:=okB (ZoT s).val
def ZNu:En:=boxE ZBR ZwN Zuq (λa=>some (ZoU a.1)) (λa=>Zcu a.1)
theorem ZNs:Zb prog 66 ZNu:=
 ZcA (P:=prog) (n:=63) (k:=8) (l:=[(59,ZlL),(68,ZcS),(71,ZxI),(93,ZzD),(119,Zhf),(122,ZNq),(123,ZWb),(124,ZoI)]) (ol:=[(0,ZxK)]) ⟨Zj8,Zbb,Zl3,Zv7,Zfa,ZFa,ZNk,ZoG,Tv⟩ Tryz.func66 rfl (by kernel_rfl) Tryz.call66 ⟨ZB0,Tv⟩ (rb:=ZBR) (ts:=ZwN) (rs:=Zuq) (t:=λa=>ZoT a.1) (λa=>by kernel_rfl)
def ZoP (s:List Int×Int):RT (Option (INPT×List Int×Int)):=
 let x1:=decide ((Za s 64).1<30)||(decide ((Za s 64).1<36)||(decide ((Za s 64).1<40)||(!decide ((Za s 64).1<46)||Zl (Za s 64).2 256)))
 let x2:= !x1
 let x3:=decide ((Za s 64).1<30)||(decide ((Za s 64).1<36)||(decide ((Za s 64).1<40)||(decide ((Za s 64).1<46)||(decide ((Za s 64).1<50)||(decide ((Za s 64).1<53)||(decide ((Za s 64).1<55)||((Za s 64).1==55||(!decide ((Za s 64).1<60)||Zcg (Za s 64).2))))))))
 let x4:= !x3
 let x5:= !Zbq (Zai (Zai (Zai (Zai (Za s 64).2).2).2).2).2
 let x6:List Int×Int:=(Zai (Zai (Zai (Zai (Zai (Za s 64).2).2).2).2).2).2
 let x7:=Zl x6 256
 let x8:=Za x6 256
 let x9:=x8.2
 let x10:=decide ((Za s 64).1<30)||(decide ((Za s 64).1<36)||(decide ((Za s 64).1<40)||(decide ((Za s 64).1<46)||(decide ((Za s 64).1<50)||(decide ((Za s 64).1<53)||(decide ((Za s 64).1<55)||((Za s 64).1==55||(decide ((Za s 64).1<60)||(!Zbq (Za s 64).2||(!Zbq (Zai (Za s 64).2).2||(!Zbq (Zai (Zai (Za s 64).2).2).2||(!Zbq (Zai (Zai (Zai (Za s 64).2).2).2).2||(x5||(!x7||Zl x9 256))))))))))))))
 let x11:= !x10
 let x12:=decide ((Za s 64).1<30)||(decide ((Za s 64).1<36)||(decide ((Za s 64).1<40)||(decide ((Za s 64).1<46)||(decide ((Za s 64).1<50)||(decide ((Za s 64).1<53)||(decide ((Za s 64).1<55)||((Za s 64).1==55||(decide ((Za s 64).1<60)||(!Zbq (Za s 64).2||(!Zbq (Zai (Za s 64).2).2||(!Zbq (Zai (Zai (Za s 64).2).2).2||(!Zbq (Zai (Zai (Zai (Za s 64).2).2).2).2||(x5||x7)))))))))))))
 let x13:= !x12
 let x14:=decide ((Za s 64).1<30)||(decide ((Za s 64).1<36)||(decide ((Za s 64).1<40)||(decide ((Za s 64).1<46)||(decide ((Za s 64).1<50)||(decide ((Za s 64).1<53)||(decide ((Za s 64).1<55)||((Za s 64).1==55||(decide ((Za s 64).1<60)||(!Zbq (Za s 64).2||(!Zbq (Zai (Za s 64).2).2||(!Zbq (Zai (Zai (Za s 64).2).2).2||(!Zbq (Zai (Zai (Zai (Za s 64).2).2).2).2||Zbq (Zai (Zai (Zai (Zai (Za s 64).2).2).2).2).2))))))))))))
 let x15:= !x14
 let x16:=decide ((Za s 64).1<30)||(decide ((Za s 64).1<36)||(decide ((Za s 64).1<40)||(decide ((Za s 64).1<46)||(decide ((Za s 64).1<50)||(decide ((Za s 64).1<53)||(decide ((Za s 64).1<55)||((Za s 64).1==55||(decide ((Za s 64).1<60)||(!Zbq (Za s 64).2||(!Zbq (Zai (Za s 64).2).2||(!Zbq (Zai (Zai (Za s 64).2).2).2||Zbq (Zai (Zai (Zai (Za s 64).2).2).2).2)))))))))))
 let x17:= !x16
 let x18:=decide ((Za s 64).1<30)||(decide ((Za s 64).1<36)||(decide ((Za s 64).1<40)||(decide ((Za s 64).1<46)||(decide ((Za s 64).1<50)||(decide ((Za s 64).1<53)||(decide ((Za s 64).1<55)||((Za s 64).1==55||(decide ((Za s 64).1<60)||(!Zbq (Za s 64).2||(!Zbq (Zai (Za s 64).2).2||Zbq (Zai (Zai (Za s 64).2).2).2))))))))))
 let x19:= !x18
 let x20:=decide ((Za s 64).1<30)||(decide ((Za s 64).1<36)||(decide ((Za s 64).1<40)||(decide ((Za s 64).1<46)||(decide ((Za s 64).1<50)||(decide ((Za s 64).1<53)||(decide ((Za s 64).1<55)||((Za s 64).1==55||(decide ((Za s 64).1<60)||(!Zbq (Za s 64).2||Zbq (Zai (Za s 64).2).2)))))))))
 let x21:=Za x9 256
 let x22:=x21.2
 .br (Zl s 64) (.br (x2||(x4||(x11||(x13||(x15||(x17||(x19||(!x20||(decide ((Za s 64).1<30)||(decide ((Za s 64).1<36)||(decide ((Za s 64).1<40)||(decide ((Za s 64).1<46)||(decide ((Za s 64).1<50)||(decide ((Za s 64).1<53)||(decide ((Za s 64).1<55)||((Za s 64).1==55||(decide ((Za s 64).1<60)||Zbq (Za s 64).2))))))))))))))))) (.br (x2||(x4||(x11||(x13||(x15||(x17||(x19||x20))))))) (.br (x2||(x4||(x11||(x13||(x15||(x17||x18)))))) (.br (x2||(x4||(x11||(x13||(x15||x16))))) (.br (x2||(x4||(x11||(x13||x14)))) (.br (x2||(x4||(x11||x12))) (.br (x2||(x4||x10)) (.br (x2||x3) (.br (x1) (Ls (((bif decide ((Za s 64).1<30) then ZP.1 else !decide ((Za s 64).1<36)&&bif decide ((Za s 64).1<40) then ZP.1 else bif decide ((Za s 64).1<46) then ZP.1 else bif decide ((Za s 64).1<50) then ZP.1 else bif decide ((Za s 64).1<53) then ZP.1 else bif decide ((Za s 64).1<55) then ZP.1 else bif (Za s 64).1==55 then ZP.1 else bif decide ((Za s 64).1<60) then ZP.1 else (Zai (Za s 64).2).1,bif decide ((Za s 64).1<30) then ZP.2.1 else bif decide ((Za s 64).1<36) then ZP.2.1 else decide ((Za s 64).1<40)||bif decide ((Za s 64).1<46) then ZP.2.1 else bif decide ((Za s 64).1<50) then ZP.2.1 else bif decide ((Za s 64).1<53) then ZP.2.1 else bif decide ((Za s 64).1<55) then ZP.2.1 else bif (Za s 64).1==55 then ZP.2.1 else bif decide ((Za s 64).1<60) then ZP.2.1 else (Zai (Zai (Za s 64).2).2).1,bif decide ((Za s 64).1<30) then ZP.2.2.1 else bif decide ((Za s 64).1<36) then ZP.2.2.1 else bif decide ((Za s 64).1<40) then ZP.2.2.1 else bif decide ((Za s 64).1<46) then ZP.2.2.1 else bif decide ((Za s 64).1<50) then ZP.2.2.1 else bif decide ((Za s 64).1<53) then ZP.2.2.1 else bif decide ((Za s 64).1<55) then ZP.2.2.1 else (Za s 64).1==55||decide ((Za s 64).1<60)&&ZP.2.2.1,bif decide ((Za s 64).1<30) then ZP.2.2.2.1 else bif decide ((Za s 64).1<36) then ZP.2.2.2.1 else bif decide ((Za s 64).1<40) then ZP.2.2.2.1 else bif decide ((Za s 64).1<46) then ZP.2.2.2.1 else bif decide ((Za s 64).1<50) then ZP.2.2.2.1 else bif decide ((Za s 64).1<53) then (Za s 64).1==51 else bif decide ((Za s 64).1<55) then ZP.2.2.2.1 else bif (Za s 64).1==55 then ZP.2.2.2.1 else bif decide ((Za s 64).1<60) then ZP.2.2.2.1 else (Zai (Zai (Zai (Za s 64).2).2).2).1,bif decide ((Za s 64).1<30) then ZP.2.2.2.2.1 else bif decide ((Za s 64).1<36) then ZP.2.2.2.2.1 else bif decide ((Za s 64).1<40) then ZP.2.2.2.2.1 else bif decide ((Za s 64).1<46) then ZP.2.2.2.2.1 else bif decide ((Za s 64).1<50) then ZP.2.2.2.2.1 else bif decide ((Za s 64).1<53) then ZP.2.2.2.2.1 else decide ((Za s 64).1<55)||bif (Za s 64).1==55 then ZP.2.2.2.2.1 else decide ((Za s 64).1<60)&&ZP.2.2.2.2.1,bif decide ((Za s 64).1<30) then ZP.2.2.2.2.2.1 else bif decide ((Za s 64).1<36) then ZP.2.2.2.2.2.1 else bif decide ((Za s 64).1<40) then ZP.2.2.2.2.2.1 else bif decide ((Za s 64).1<46) then ZP.2.2.2.2.2.1 else bif decide ((Za s 64).1<50) then Int.tmod (Za s 64).1 2==0 else bif decide ((Za s 64).1<53) then ZP.2.2.2.2.2.1 else bif decide ((Za s 64).1<55) then ZP.2.2.2.2.2.1 else bif (Za s 64).1==55 then ZP.2.2.2.2.2.1 else bif decide ((Za s 64).1<60) then ZP.2.2.2.2.2.1 else (Zai (Zai (Zai (Zai (Za s 64).2).2).2).2).1,bif decide ((Za s 64).1<30) then ZP.2.2.2.2.2.2.1 else bif decide ((Za s 64).1<36) then ZP.2.2.2.2.2.2.1 else bif decide ((Za s 64).1<40) then ZP.2.2.2.2.2.2.1 else bif decide ((Za s 64).1<46) then ZP.2.2.2.2.2.2.1 else bif decide ((Za s 64).1<50) then Int.tmod (Za s 64).1 2==1 else bif decide ((Za s 64).1<53) then ZP.2.2.2.2.2.2.1 else bif decide ((Za s 64).1<55) then ZP.2.2.2.2.2.2.1 else bif (Za s 64).1==55 then ZP.2.2.2.2.2.2.1 else bif decide ((Za s 64).1<60) then ZP.2.2.2.2.2.2.1 else (Zai (Zai (Zai (Zai (Zai (Za s 64).2).2).2).2).2).1,bif decide ((Za s 64).1<30) then ZP.2.2.2.2.2.2.2.1 else bif decide ((Za s 64).1<36) then ZP.2.2.2.2.2.2.2.1 else bif decide ((Za s 64).1<40) then ZP.2.2.2.2.2.2.2.1 else bif decide ((Za s 64).1<46) then ZP.2.2.2.2.2.2.2.1 else bif decide ((Za s 64).1<50) then ZP.2.2.2.2.2.2.2.1 else decide ((Za s 64).1<53)||bif decide ((Za s 64).1<55) then ZP.2.2.2.2.2.2.2.1 else bif (Za s 64).1==55 then ZP.2.2.2.2.2.2.2.1 else decide ((Za s 64).1<60)&&ZP.2.2.2.2.2.2.2.1,bif decide ((Za s 64).1<30) then ZP.2.2.2.2.2.2.2.2.1 else bif decide ((Za s 64).1<36) then ZP.2.2.2.2.2.2.2.2.1 else bif decide ((Za s 64).1<40) then ZP.2.2.2.2.2.2.2.2.1 else bif decide ((Za s 64).1<46) then u8.wrap (Za (Za s 64).2 256).1 else bif decide ((Za s 64).1<50) then ZP.2.2.2.2.2.2.2.2.1 else bif decide ((Za s 64).1<53) then ZP.2.2.2.2.2.2.2.2.1 else bif decide ((Za s 64).1<55) then ZP.2.2.2.2.2.2.2.2.1 else bif (Za s 64).1==55 then ZP.2.2.2.2.2.2.2.2.1 else bif decide ((Za s 64).1<60) then 1 else u8.wrap x8.1,bif decide ((Za s 64).1<30) then u8.wrap (Za s 64).1 else bif decide ((Za s 64).1<36) then ZP.2.2.2.2.2.2.2.2.2 else bif decide ((Za s 64).1<40) then ZP.2.2.2.2.2.2.2.2.2 else bif decide ((Za s 64).1<46) then ZP.2.2.2.2.2.2.2.2.2 else bif decide ((Za s 64).1<50) then ZP.2.2.2.2.2.2.2.2.2 else bif decide ((Za s 64).1<53) then ZP.2.2.2.2.2.2.2.2.2 else bif decide ((Za s 64).1<55) then ZP.2.2.2.2.2.2.2.2.2 else bif (Za s 64).1==55 then ZP.2.2.2.2.2.2.2.2.2 else bif decide ((Za s 64).1<60) then (Zam (Za s 64).2).1 else u8.wrap x21.1),bif decide ((Za s 64).1<30) then (Za s 64).2.1 else bif decide ((Za s 64).1<36) then (Za s 64).2.1 else bif decide ((Za s 64).1<40) then (Za s 64).2.1 else bif decide ((Za s 64).1<46) then (Za (Za s 64).2 256).2.1 else bif decide ((Za s 64).1<50) then (Za s 64).2.1 else bif decide ((Za s 64).1<53) then (Za s 64).2.1 else bif decide ((Za s 64).1<55) then (Za s 64).2.1 else bif (Za s 64).1==55 then (Za s 64).2.1 else bif decide ((Za s 64).1<60) then (Zam (Za s 64).2).2.1 else x22.1,bif decide ((Za s 64).1<30) then (Za s 64).2.2 else bif decide ((Za s 64).1<36) then (Za s 64).2.2 else bif decide ((Za s 64).1<40) then (Za s 64).2.2 else bif decide ((Za s 64).1<46) then (Za (Za s 64).2 256).2.2 else bif decide ((Za s 64).1<50) then (Za s 64).2.2 else bif decide ((Za s 64).1<53) then (Za s 64).2.2 else bif decide ((Za s 64).1<55) then (Za s 64).2.2 else bif (Za s 64).1==55 then (Za s 64).2.2 else bif decide ((Za s 64).1<60) then (Zam (Za s 64).2).2.2 else x22.2))) Ln) Ln) Ln) Ln) Ln) Ln) Ln) Ln) Ln) Ln
def ZdI (s:List Int×Int):INPT×List Int×Int:=getO (ZIH.Df,ZBR.Df) (ZoP s).val
def Zh6 (s:List Int×Int):Bool:=okB (ZoP s).val
def ZoQ:En:=boxE ZBR ZwN ZIH (λa=>some (Zh6 a.1)) (λa=>ZdI a.1)
theorem ZoO:Zb prog 62 ZoQ:=
 ZcA (P:=prog) (n:=5036105318265824215071) (k:=8) (l:=[(68,ZcS),(69,ZTw),(118,ZSE),(119,Zhf)]) (ol:=[]) ⟨Zbb,ZRw,ZPr,Zfa,Tv⟩ Tryz.func62 rfl (by kernel_rfl) Tryz.call62 trivial (rb:=ZBR) (ts:=ZwN) (rs:=ZIH) (t:=λa=>ZoP a.1) (λa=>by kernel_rfl)
abbrev ZoM:Rs:=Rs.one (So (R.sl Zfw))
def ZHU:LS:={n:=39,Sl:=[(0,.fix (A.loc 0 0)),(5,.tip 0),(6,.code (So Kc)),(7,.fix (A.loc 1 0)),(8,.code (So Kc))],Bx:=[[.many (R.Pq (R.sl Kc) Kc)],[.many Zfw]],Sg:=[⟨Zfw,122,true⟩]}
def Zd0 (a:QT18):RT (Option (Go1 (QT18))):=
 let x1:List INPT:=a.2.2.2.2.1++[a.2.2.2.1]
 .br (decide (a.2.1>=0)&&decide (iN (Le a.2.2.2.2.1)<a.1)) (.br (Nat.ble (Le x1) most) (Ls (Go1.cont (a.1,i64.wrap (a.2.1-1),a.2.2.1,a.2.2.2.1,x1,PUnit.unit))) Ln) (Ls (Go1.brk (a.1,a.2.1,a.2.2.1,a.2.2.2.1,a.2.2.2.2.1,PUnit.unit)))
def Zhg:Ora:=Zbr false ZHU Zd0 (λa=>400)
theorem Zk8:Za1 (envX prog [(62,ZoQ),(68,ZcS)] [] 511 8) (.block 2 (.loop (Z7 Tryz.f125.body 2))) Zhg:=
 loopP ⟨ZoO,Zbb,Tv⟩
def ZHT:LS:={n:=39,Sl:=[(0,.fix (A.loc 0 0)),(5,.tip 0),(6,.code (So Kc))],Bx:=[[.many (R.Pq (R.sl Kc) Kc)]],Sg:=[⟨Zfw,122,true⟩]}
def Zfb (a:QT25):RT (Option (Go1 (QT25))):=
 let x1:= !Zl (ZdI a.2.1).2 4||Zl (Za (ZdI a.2.1).2 4).2 5
 let x2:= !x1
 let x3:QT18:=(a.1,i64.wrap ((Za (ZdI a.2.1).2 4).1*(Za (Za (ZdI a.2.1).2 4).2 5).1),(Za (Za (ZdI a.2.1).2 4).2 5).2,(ZdI a.2.1).1,a.2.2.1,())
 let x4:=runF false Zd0 (λa_1=>400) x3
 let x5:QT18:=(getO (false,x3) x4).2
 let x6:=x5.2.2
 .br (decide (iN (Le a.2.2.1)<a.1)) (.br (!Zh6 a.2.1||(x2||(!Zl (ZdI a.2.1).2 4||okB x4))) (.br (!Zh6 a.2.1||(x2||Zl (ZdI a.2.1).2 4)) (.br (!Zh6 a.2.1||x1) (.br (Zh6 a.2.1) (Ls (Go1.cont (x5.1,x6.1,x6.2.2.1,PUnit.unit))) Ln) Ln) Ln) Ln) (Ls (Go1.brk (a.1,a.2.1,a.2.2.1,PUnit.unit)))
def Zrb:Ora:=Zbr false ZHT Zfb (λa=>400)
theorem ZxG:Za1 (envX prog [(62,ZoQ),(68,ZcS)] [(2,Zhg)] 511 8) (.block 0 (.loop (Z7 Tryz.f125.body 0))) Zrb:=
 Zjl (ZbD (l:=[(62,ZoQ),(68,ZcS)]) ⟨ZoO,Zbb,Tv⟩ [(2,Zhg)] 511 8) (Zh8 (by kernel_rfl) (by kernel_rfl) ⟨Zk8,Tv⟩) (λa=>by kernel_rfl)
def Zjd (s:List Int×Int) (n:Int):RT (Option (List INPT×List Int×Int)):=
 let x1:QT25:=((Za s (i64.wrap (n+1))).1,(Za s (i64.wrap (n+1))).2,[],())
 let x2:=runF false Zfb (λa=>400) x1
 let x3:(List Int×Int)×List INPT×PUnit:=(getO (false,x1) x2).2.2
 .br (Zl s (i64.wrap (n+1))) (.br (okB x2) (Ls ((x3.2.1,x3.1))) Ln) Ln
def Zaf (s:List Int×Int) (n:Int):List INPT×List Int×Int:=getO (ZoM.Df,ZBR.Df) (Zjd s n).val
def Zje (s:List Int×Int) (n:Int):Bool:=okB (Zjd s n).val
def ZE7:En:=boxE ZBR Zw8 ZoM (λa=>some (Zje a.1 a.2)) (λa=>Zaf a.1 a.2)
theorem ZHR:Zb prog 125 ZE7:=
 ZcA (P:=prog) (n:=511) (k:=8) (l:=[(62,ZoQ),(68,ZcS)]) (ol:=[(2,Zhg),(0,Zrb)]) ⟨ZoO,Zbb,Tv⟩ Tryz.func125 rfl (by kernel_rfl) Tryz.call125 ⟨Zk8,ZxG,Tv⟩ (rb:=ZBR) (ts:=Zw8) (rs:=ZoM) (t:=λa=>Zjd a.1 a.2) (λa=>by kernel_rfl)
variable {s:List Int×Int} {k:Int}
theorem NB.up {j:Int} (h:NB s k) (hj:k<=j):NB s j:=⟨h.1,by have:=h.2;omega⟩
theorem Zjf (h:NB s k) (hk:k<=1000000):Zbq s=true/\NB (Zai s).2 (k+1):=by obtain⟨c1,b,_⟩:=Zs h hk 2 (by decide) (by decide);simp only[Zbq,Zai,ZE9,RT.val,c1,Ya,okB,getO];exact⟨trivial,b⟩
theorem ZaV {a b:Nat} (h:a<=b):Nat.ble a b=true:=by rw[YF];exact h
theorem ZBM (h:NB s k) (hk:k<=500000) (n:Nat) (hn:n<=100):
  Zb0 s (n:Int)=true/\NB (ZU s (n:Int)).2 (k+1+5*n)/\(ZU s (n:Int)).1.length<=n:=by
 have hms:=mst;have w0:IntKind.wrap .i64 ((n:Int)+1)=(n:Int)+1:=wrap_i64 _ (by omega) (by omega);obtain⟨c1,b1,d0,d1⟩:=Zs h (by omega) ((n:Int)+1) (by omega) (by omega);obtain⟨L,N,hs1⟩:∃L N,(L,N)=(Za s ((n:Int)+1)).2:=⟨_,_,rfl⟩;obtain⟨q,hq⟩:∃q:Nat,(Za s ((n:Int)+1)).1=(q:Int):=⟨_,(Yaq d0).symm⟩;rw[<-hs1] at b1;obtain⟨r,hr,h1,L',N',o,hs',ho,hR⟩:=ZI (fl:=false) (t:=ZbZ) (fuel:=λa=>400)
  (λa=>∃(i:Nat) (L:List Int) (N:Int) (o:List ZT),i<=q/\NB (L,N) (k+1+5*((q-i:Nat):Int))/\o.length<=q-i/\a=((i:Int),(L,N),o,()))
  (λa=>Int.toNat a.1) (λr=>r.1=false/\∃(L:List Int) (N:Int) (o:List ZT),NB (L,N) (k+1+5*(q:Int))/\o.length<=q/\r.2=((0:Int),(L,N),o,()))
  (by
   rintro a ⟨i,L,N,o,hi,hs',ho,rfl⟩;cases i with
   |zero=>
    right;left;exact⟨_,by simp only[ZbZ,RT.val];rfl,rfl,L,N,o,by simpa using hs',by omega,rfl⟩
   |succ i=>
    left;have d:decide (((i+1:Nat):Int)>0)=true:=Yz (by omega);obtain⟨kw,bw,_⟩:=ZE5 hs' (by omega);obtain⟨k1,b1,e0,e1⟩:=Zs bw (by omega) 6 (by decide) (by decide);obtain⟨k2,b2,_⟩:=Zs b1 (by omega) 3 (by decide) (by decide);obtain⟨k3,b3,f0,f1⟩:=Zs b2 (by omega) 5 (by decide) (by decide);have r1:Zf (Za (ZaR (L,N)).2 6).1 6=true:=ZF.2 ⟨e0,e1⟩;have r2:Zf (Za (Za (Za (ZaR (L,N)).2 6).2 3).2 5).1 5=true:=ZF.2 ⟨f0,f1⟩;have hb:∀x:ZT,Nat.ble (o++[x]).length most=true:=λx=>ZaV (by simp;omega)
    have w:IntKind.wrap .i64 (((i+1:Nat):Int)-1)=(i:Int):=by rw[wrap_i64 _ (by omega) (by omega)];omega
    obtain⟨o',ho'⟩:∃o':List ZT,o'=o++[((ZaR (L,N)).1,u16.wrap (if 65535<i64.wrap (i64.wrap (ZaR (L,N)).1+R.get (R.int i64) [0,3,15,255,4095,65535] (Za (ZaR (L,N)).2 6).1) then 65535 else i64.wrap (i64.wrap (ZaR (L,N)).1+R.get (R.int i64) [0,3,15,255,4095,65535] (Za (ZaR (L,N)).2 6).1)),decide ((Za (Za (ZaR (L,N)).2 6).2 3).1>0),R.get (R.int i64) [0,0,1,2,5] (Za (Za (Za (ZaR (L,N)).2 6).2 3).2 5).1)]:=⟨_,rfl⟩;refine⟨((i:Int),((Za (Za (Za (ZaR (L,N)).2 6).2 3).2 5).2.1,(Za (Za (Za (ZaR (L,N)).2 6).2 3).2 5).2.2),o',()),?_,⟨i,_,_,o',by omega,b3.up (by omega),by rw[ho'];simp;omega,rfl⟩,by simp only;omega⟩
    simp only[ZbZ,RT.val,List.length_cons,List.length_nil,Nat.reduceAdd,d,kw,k1,k2,k3,r1,r2,hb,w,ho',Ya,Yf,Yi,Yj,Yw])
  ((q:Int),(L,N),[],()) ⟨q,L,N,[],Ye _,by simpa using b1,by simp,rfl⟩ (by simp only;omega)
 obtain⟨r1,r2⟩:=r;simp only at h1 hR;subst h1 hR;have hv:(Zen s (n:Int)).val=some (o,L',N'):=by simp only[Zen,RT.val,w0,c1,hq,<-hs1,hr,okB,getO,Ya]
 simp only[Zb0,ZU,hv,okB,getO];exact⟨trivial,hs'.up (by omega),by omega⟩
variable {l:List Cell}
theorem ZXo (h:l.length<=1000):smC l=true:=ZaV (by have:=mst;omega)
theorem ZSS {l:List Int} (h:l.length<=1000):smB l=true:=ZaV (by have:=mst;omega)
theorem ZBS (h:NB s k) (hk:k<=400000):ZHQ s=true/\NB (nMap s).2 (k+20)/\(nMap s).1.length<=3:=by
 obtain⟨c1,b1,l1⟩:=ZBM h (by omega) 2 (by omega);have c1:Zb0 s 2=true:=c1;have b1:NB (ZU s 2).2 (k+1+5*((2:Nat):Int)):=b1;have l1:(ZU s 2).1.length<=2:=l1;obtain⟨c2,b2,_⟩:=Zs b1 (by omega) 3 (by decide) (by decide);have hs:∀x:ZT,Nat.ble ((ZU s 2).1++[x]).length most=true:=λx=>ZaV (by have:=mst;simp;omega)
 have hg:∀l:List ZT,Stg.l (newG ZdY ZdZ l)=l:=λ_=>rfl
 have hv:(ZBT s).val=some ((ZU s 2).1++[(0,65535,true,IntKind.wrap .i64 (Int.tdiv (Za (ZU s 2).2 3).1 2))],(Za (ZU s 2).2 3).2):=by simp only[ZBT,RT.val,hg,c1,c2,hs,Yf,Yi,Yj,Ya]
 refine⟨by simp only[ZHQ,hv];rfl,?_,?_⟩
 ·simp only[nMap,hv,getO];exact b2.up (by omega)
 ·simp only[nMap,hv,getO];simp;omega
theorem ZBO (h:NB s k) (hk:k<=300000) (n:Nat) (hn:n<=20):
  ZgB s (n:Int)=true/\NB (Zcf s (n:Int)).2 (k+1+10*n)/\(Zcf s (n:Int)).1.length<=12*n:=by
 have hms:=mst;have w0:IntKind.wrap .i64 ((n:Int)+1)=(n:Int)+1:=wrap_i64 _ (by omega) (by omega);obtain⟨c1,b1,d0,d1⟩:=Zs h (by omega) ((n:Int)+1) (by omega) (by omega);obtain⟨s1,hs1⟩:∃s1,s1=(Za s ((n:Int)+1)).2:=⟨_,rfl⟩;obtain⟨q,hq⟩:∃q:Nat,(Za s ((n:Int)+1)).1=(q:Int):=⟨_,(Yaq d0).symm⟩;rw[<-hs1] at b1;obtain⟨r,hr,h1,s',o,hs',ho,hR⟩:=ZI (fl:=false) (t:=Zde) (fuel:=λa=>400)
  (λa=>∃(i:Nat) (s':List Int×Int) (o:List Int),i<=q/\NB s' (k+1+10*((q-i:Nat):Int))/\o.length<=12*(q-i)/\a=((i:Int),s',o,()))
  (λa=>Int.toNat a.1) (λr=>r.1=false/\∃(s':List Int×Int) (o:List Int),NB s' (k+1+10*(q:Int))/\o.length<=12*q/\r.2=((0:Int),s',o,()))
  (by
   rintro a ⟨i,s',o,hi,hs',ho,rfl⟩;cases i with
   |zero=>
    right;left;exact⟨_,by simp only[Zde,RT.val];rfl,rfl,s',o,by simpa using hs',by omega,rfl⟩
   |succ i=>
    left;have d:decide (((i+1:Nat):Int)>0)=true:=Yz (by omega);have w:IntKind.wrap .i64 (((i+1:Nat):Int)-1)=(i:Int):=by rw[wrap_i64 _ (by omega) (by omega)];omega
    obtain⟨k0,b0,_⟩:=Zs hs' (by omega) 8 (by decide) (by decide);obtain⟨k1,b1,e0,e1⟩:=Zs b0 (by omega) 4 (by decide) (by decide);obtain⟨k2,b2,_⟩:=Zs b1 (by omega) 256 (by decide) (by decide);obtain⟨k3,b3,f0,f1⟩:=Zs b2 (by omega) 4 (by decide) (by decide);obtain⟨k4,b4,_⟩:=Zl4 b0 (by omega);obtain⟨k5,b5,_⟩:=Zs b4 (by omega) 8 (by decide) (by decide);obtain⟨k6,b6,_⟩:=Zs b0 (by omega) 16 (by decide) (by decide);obtain⟨k7,b7,_⟩:=Zl4 b6 (by omega);obtain⟨k8,b8,_⟩:=Zkv b0 (by omega);obtain⟨k9,b9,_⟩:=Zs b8 (by omega) 64 (by decide) (by decide);obtain⟨ka,ba,g0,g1⟩:=Zs b9 (by omega) 4 (by decide) (by decide);have r1:Zf (Za (Za s' 8).2 4).1 4=true:=ZF.2 ⟨e0,e1⟩;have r2:Zf (Za (Za (Za (Za s' 8).2 4).2 256).2 4).1 4=true:=ZF.2 ⟨f0,f1⟩;have r3:Zf (Za (Za (Zam (Za s' 8).2).2 64).2 4).1 4=true:=ZF.2 ⟨g0,g1⟩;have hb:∀x:List Int,x.length<=12->Nat.ble (o++x).length most=true:=λx hx=>ZaV (by rw[Yd];omega)
    have q1:∀a b c:Int,Nat.ble (o++[a,b,c]).length most=true:=λa b c=>hb _ (by simp)
    have q2:∀a b c d:Int,Nat.ble (o++[a,b,c,d]).length most=true:=λa b c d=>hb _ (by simp)
    have q3:∀a:Int,Nat.ble (o++[a]).length most=true:=λa=>hb _ (by simp)
    have q4:∀a b c d e f g h i j k l:Int,Nat.ble (o++[a,b,c,d,e,f,g,h,i,j,k,l]).length most=true:=λa b c d e f g h i j k l=>hb _ (by simp)
    have hv:∃s2 x,x.length<=12/\NB s2 (k+1+10*((q-i:Nat):Int))/\(Zde (((i+1:Nat):Int),s',o,())).val=some (Go1.cont ((i:Int),s2,o++x,())):=by
     simp only[Zde,RT.val,List.length_cons,List.length_nil,Nat.reduceAdd,d,w,k0,k1,k2,k3,k4,k5,k6,k7,k8,k9,ka,r1,r2,r3,q1,q2,q3,q4,Ya,Yf,Yi,Yj,Yw];cases (Za s' 8).1==0
     ·cases (Za s' 8).1==1
      ·cases (Za s' 8).1==2
       ·cases (Za s' 8).1==3
        ·exact⟨_,[(Zam (Za s' 8).2).1,IntKind.wrap .u8 (Za (Zam (Za s' 8).2).2 64).1,R.get (R.int .u8) [0,0,1,255] (Za (Za (Zam (Za s' 8).2).2 64).2 4).1],by simp,ba.up (by omega),rfl⟩
        ·exact⟨_,[62,IntKind.wrap .u8 (IntKind.wrap .i64 (16+(Za (Za s' 8).2 16).1)),211,0,62,(Zc3 (Za (Za s' 8).2 16).2).1,211,1,62,0,211,1],by simp,b7.up (by omega),rfl⟩
       ·exact⟨_,[251],by simp,b0.up (by omega),rfl⟩
      ·exact⟨_,[62,(Zc3 (Za s' 8).2).1,211,IntKind.wrap .u8 (Za (Zc3 (Za s' 8).2).2 8).1],by simp,b5.up (by omega),rfl⟩
     ·exact⟨_,[R.get (R.int .u8) [33,49,1,17] (Za (Za s' 8).2 4).1,IntKind.wrap .u8 (Za (Za (Za s' 8).2 4).2 256).1,R.get (R.int .u8) [0,0,1,255] (Za (Za (Za (Za s' 8).2 4).2 256).2 4).1],by simp,b3.up (by omega),rfl⟩
    obtain⟨s2,x,hx,hs2,hv⟩:=hv
    exact⟨_,hv,⟨i,s2,o++x,by omega,hs2,by rw[Yd];omega,rfl⟩,by simp only;omega⟩)
  ((q:Int),s1,[],()) ⟨q,s1,[],Ye _,by simpa using b1,by simp,rfl⟩ (by simp only;omega)
 obtain⟨r1,r2⟩:=r;simp only at h1 hR;subst h1 hR;have hv:(ZgA s (n:Int)).val=some (o,s'):=by simp only[ZgA,RT.val,w0,c1,hq,<-hs1,hr,okB,getO,Ya]
 simp only[ZgB,Zcf,hv,okB,getO];exact⟨trivial,hs'.up (by omega),by omega⟩
theorem Zx0 (t:Int) (b:List Int):(Zo4 t b).length<=b.length:=by have:=Zel (Zo6 t b b.length);rw[Zo5] at this;exact this
theorem ZNn (h:NB s k) (hk:k<=300000):Zh6 s=true/\NB (ZdI s).2 (k+20):=by
 obtain⟨c1,b1,_⟩:=Zs h (by omega) 64 (by decide) (by decide);obtain⟨c2,b2,_⟩:=Zs b1 (by omega) 256 (by decide) (by decide);obtain⟨c3,b3,_⟩:=Zkv b1 (by omega);obtain⟨f1,g1⟩:=Zjf b1 (by omega);obtain⟨f2,g2⟩:=Zjf g1 (by omega);obtain⟨f3,g3⟩:=Zjf g2 (by omega);obtain⟨f4,g4⟩:=Zjf g3 (by omega);obtain⟨f5,g5⟩:=Zjf g4 (by omega);obtain⟨c4,b4,_⟩:=Zs g5 (by omega) 256 (by decide) (by decide);obtain⟨c5,b5,_⟩:=Zs b4 (by omega) 256 (by decide) (by decide);have hv:∃c s',(ZoP s).val=some (c,s')/\NB s' (k+20):=by
  simp only[ZoP,RT.val,c1,c2,c3,c4,c5,f1,f2,f3,f4,f5,Ya,Yf,Yi,Yj,Yw];cases decide ((Za s 64).1<30) with
  |true=>exact⟨_,_,rfl,b1.up (by omega)⟩
  |false=>
  cases decide ((Za s 64).1<36) with
  |true=>exact⟨_,_,rfl,b1.up (by omega)⟩
  |false=>
  cases decide ((Za s 64).1<40) with
  |true=>exact⟨_,_,rfl,b1.up (by omega)⟩
  |false=>
  cases decide ((Za s 64).1<46) with
  |true=>exact⟨_,_,rfl,b2.up (by omega)⟩
  |false=>
  cases decide ((Za s 64).1<50) with
  |true=>exact⟨_,_,rfl,b1.up (by omega)⟩
  |false=>
  cases decide ((Za s 64).1<53) with
  |true=>exact⟨_,_,rfl,b1.up (by omega)⟩
  |false=>
  cases decide ((Za s 64).1<55) with
  |true=>exact⟨_,_,rfl,b1.up (by omega)⟩
  |false=>
  cases ((Za s 64).1==55) with
  |true=>exact⟨_,_,rfl,b1.up (by omega)⟩
  |false=>
  cases decide ((Za s 64).1<60) with
  |true=>exact⟨_,_,rfl,b3.up (by omega)⟩
  |false=>exact⟨_,_,rfl,b5.up (by omega)⟩
 obtain⟨c,s',hv,h1⟩:=hv;simp only[Zh6,ZdI,hv,okB,getO];exact⟨trivial,h1⟩
theorem ZWr (s:List Int×Int) (z:Int) (c:INPT) (kk:Nat) (hk:kk<300) (o:List INPT) (size:Nat) (ho:o.length<=size) (hz:size<=300):
  ∃k2 o2,runF false Zd0 (λ_=>400) ((size:Int),(kk:Int),s,c,o,())=some (false,(size:Int),k2,s,c,o2,())/\o2.length<=size/\o.length<=o2.length/\(o.length<size->o.length<o2.length):=by
 have hms:=mst;obtain⟨r,hr,h1,k2,o2,e1,e2,e3,e4⟩:=ZI (fl:=false) (t:=Zd0) (fuel:=λ_=>400)
  (λa=>∃(j:Nat) (o2:List INPT),j<=kk+1/\o2.length<=size/\o.length<=o2.length/\(j=kk+1\/o.length<o2.length)/\a=((size:Int),(j:Int)-1,s,c,o2,()))
  (λa=>Int.toNat (a.2.1+1)) (λr=>r.1=false/\∃k2 o2,r.2=((size:Int),k2,s,c,o2,())/\o2.length<=size/\o.length<=o2.length/\(o.length<size->o.length<o2.length))
  (by
   rintro a ⟨j,o2,hj,h2,h3,h4,rfl⟩;have w:∀j:Nat,j<=1000->IntKind.wrap .i64 (((j:Nat):Int)-1-1)=(j:Int)-1-1:=λj hj=>wrap_i64 _ (by omega) (by omega)
   by_cases hc:1<=j/\o2.length<size
   ·left;have d1:decide (((j:Nat):Int)-1>=0)=true:=Yz (by omega);have d2:decide (iN o2.length<(size:Int))=true:=Yz (by simp only[iN,Le];omega);have hb:Nat.ble (o2++[c]).length most=true:=ZaV (by simp;omega);refine⟨((size:Int),(j:Int)-1-1,s,c,o2++[c],()),?_,⟨j-1,o2++[c],by omega,by simp;omega,by simp;omega,by right;simp;omega,?_⟩,by simp only;omega⟩
    ·simp only[Zd0,RT.val,d1,d2,hb,Y6,Ya,w j (by omega)]
    ·have:((j:Nat):Int)-1=((j-1:Nat):Int):=by omega
     rw[this]
   ·right;left;have d:(decide (((j:Nat):Int)-1>=0)&&decide (iN o2.length<(size:Int)))=false:=by simp only[iN,Le,Yas,Yaa];omega
    exact⟨((size:Int),(j:Int)-1,s,c,o2,()),by simp only[Zd0,RT.val,d,Yb],rfl,_,o2,rfl,h2,h3,λh=>by
     rcases h4 with h4|h4
     ·omega
     ·exact h4⟩)
  ((size:Int),(kk:Int),s,c,o,()) ⟨kk+1,o,Ye _,ho,Ye _,.inl rfl,by
   have:(kk:Int)=((kk+1:Nat):Int)-1:=by omega
   rw[<-this]⟩ (by simp only;omega)
 obtain⟨r1,r2⟩:=r;simp only at h1 e1;subst h1 e1;exact⟨k2,o2,hr,e2,e3,e4⟩
theorem ZHS (h:NB s k) (hk:k<=100000) (n:Nat) (hn:n<=250):
  Zje s (n:Int)=true/\NB (Zaf s (n:Int)).2 (k+1+30*n)/\(Zaf s (n:Int)).1.length<=n:=by
 have hms:=mst;have w0:IntKind.wrap .i64 ((n:Int)+1)=(n:Int)+1:=wrap_i64 _ (by omega) (by omega);obtain⟨c1,b1,d0,d1⟩:=Zs h (by omega) ((n:Int)+1) (by omega) (by omega);obtain⟨s1,hs1⟩:∃s1,s1=(Za s ((n:Int)+1)).2:=⟨_,rfl⟩;obtain⟨q,hq⟩:∃q:Nat,(Za s ((n:Int)+1)).1=(q:Int):=⟨_,(Yaq d0).symm⟩;rw[<-hs1] at b1;obtain⟨r,hr,h1,s',o,hs',ho,hR⟩:=ZI (fl:=false) (t:=Zfb) (fuel:=λa=>400)
  (λa=>∃(s':List Int×Int) (o:List INPT),NB s' (k+1+30*(o.length:Int))/\o.length<=q/\a=((q:Int),s',o,()))
  (λa=>Int.toNat a.1-a.2.2.1.length) (λr=>r.1=false/\∃(s':List Int×Int) (o:List INPT),NB s' (k+1+30*(q:Int))/\o.length<=q/\r.2=((q:Int),s',o,()))
  (by
   rintro a ⟨s',o,hs',ho,rfl⟩;by_cases hc:o.length<q
   ·left;have d:decide (iN o.length<(q:Int))=true:=Yz (by simp only[iN,Le];omega);obtain⟨i1,g1⟩:=ZNn hs' (by omega);obtain⟨i2,g2,m0,m1⟩:=Zs g1 (by omega) 4 (by decide) (by decide);obtain⟨i3,g3,m2,m3⟩:=Zs g2 (by omega) 5 (by decide) (by decide);obtain⟨x,hx⟩:∃x:Nat,(Za (ZdI s').2 4).1=(x:Int):=⟨_,(Yaq m0).symm⟩;obtain⟨y,hy⟩:∃y:Nat,(Za (Za (ZdI s').2 4).2 5).1=(y:Int):=⟨_,(Yaq m2).symm⟩;have hxy:x*y<=3*4:=Nat.mul_le_mul (by omega) (by omega);have w:IntKind.wrap .i64 ((x:Int)*(y:Int))=((x*y:Nat):Int):=by rw[show (x:Int)*(y:Int)=((x*y:Nat):Int) by simp,wrap_i64 _ (by omega) (by omega)]
    obtain⟨k2,o2,hr,e2,e3,e4⟩:=ZWr (Za (Za (ZdI s').2 4).2 5).2 0 (ZdI s').1 (x*y) (by omega) o q ho (by omega);have e5:=e4 hc;refine⟨((q:Int),(Za (Za (ZdI s').2 4).2 5).2,o2,()),?_,⟨_,o2,g3.up (by omega),e2,rfl⟩,by simp only;omega⟩;simp only[Zfb,RT.val,d,i1,i2,i3,hx,hy,w,hr,okB,getO,Ya,Yf,Yi,Yj,Yw]
   ·right;left;have d:decide (iN o.length<(q:Int))=false:=YO (by simp only[iN,Le];omega)
    exact⟨_,by simp only[Zfb,RT.val,d,Yb],rfl,s',o,hs'.up (by omega),ho,rfl⟩)
  ((q:Int),s1,[],()) ⟨s1,[],by simpa using b1,by simp,rfl⟩ (by simp only[List.length_nil];omega)
 obtain⟨r1,r2⟩:=r;simp only at h1 hR;subst h1 hR;have hv:(Zjd s (n:Int)).val=some (o,s'):=by simp only[Zjd,RT.val,w0,c1,hq,<-hs1,hr,okB,getO,Ya]
 simp only[Zje,Zaf,hv,okB,getO];exact⟨trivial,hs'.up (by omega),by omega⟩
theorem ZxJ (h:NB s k) (hk:k<=10000):
  ZoU s=true/\NB (Zcu s).2 (k+300)/\(∃s1,NB s1 (k+1)/\(Zcu s).1.2.1=(nMap s1).1)/\((Zcu s).1.1=1\/(Zcu s).1.1=2)/\
   (0<=(Zcu s).1.2.2.1/\(Zcu s).1.2.2.1<=2)/\∃l:List Cell,l.length<=200/\(Zcu s).1.2.2.2.2.2.2=normX l:=by
 have hms:=mst;obtain⟨c0,b0,hch⟩:=ZRx h (by omega);obtain⟨c1,b1,l1⟩:=ZBS b0 (by omega);obtain⟨c2,b2,w0,w1⟩:=Zs b1 (by omega) 3 (by decide) (by decide);obtain⟨c3,b3,_⟩:=Zs b2 (by omega) 4 (by decide) (by decide);obtain⟨c4,b4,_⟩:=Zs b3 (by omega) 6 (by decide) (by decide);obtain⟨c5,b5,_⟩:=Zl4 b4 (by omega);obtain⟨c6,b6,_⟩:=Zl4 b5 (by omega)
 obtain⟨s2,hs2,b7⟩:∃s2,s2=((bif (Za (Za (Za (nMap (Za0 s).2).2 3).2 4).2 6).1==0 then (Zc3 (Zc3 (Za (Za (Za (nMap (Za0 s).2).2 3).2 4).2 6).2).2).2.1 else (Za (Za (Za (nMap (Za0 s).2).2 3).2 4).2 6).2.1,
   bif (Za (Za (Za (nMap (Za0 s).2).2 3).2 4).2 6).1==0 then (Zc3 (Zc3 (Za (Za (Za (nMap (Za0 s).2).2 3).2 4).2 6).2).2).2.2 else (Za (Za (Za (nMap (Za0 s).2).2 3).2 4).2 6).2.2):List Int×Int)/\NB s2 (k+30):=by
  refine⟨_,rfl,?_⟩;cases (Za (Za (Za (nMap (Za0 s).2).2 3).2 4).2 6).1==0
  ·exact b4.up (by omega)
  ·exact b6.up (by omega)
 obtain⟨c8,b8,l8⟩:=ZBO b7 (by omega) 12 (by omega);have c8:ZgB s2 12=true:=c8;have b8:NB (Zcf s2 12).2 (k+30+1+10*((12:Nat):Int)):=b8;have l8:(Zcf s2 12).1.length<=12*12:=l8;obtain⟨c9,b9,d0,d1⟩:=Zs b8 (by omega) 4 (by decide) (by decide);have hl:=Zx0 0 (Zcf s2 12).1;obtain⟨q,hq⟩:∃q:Nat,(Za (Zcf s2 12).2 4).1=(q:Int):=⟨_,(Yaq d0).symm⟩;have hg:∀l:List Cell,Stg.l (newG ZcN ZrM l)=l:=λ_=>rfl
 have key:∀x y z:BRDT,∀o:List Cell,o.length<=144->∃s' o',NB s' (k+200)/\o'.length<=200/\
   runF false Zfc (λ_=>400) ((q:Int),(Za (Zcf s2 12).2 4).2,x,y,o,())=some (false,0,s',x,y,o',()):=by
  intro x y z o ho;obtain⟨r,hr,h1,s',o',g1,g2,g3⟩:=ZI (fl:=false) (t:=Zfc) (fuel:=λ_=>400)
   (λa=>∃(i:Nat) (s':List Int×Int) (o:List Cell),i<=q/\NB s' (k+30+1+10*((12:Nat):Int)+1+4*((q-i:Nat):Int))/\o.length<=144+3*(q-i)/\a=((i:Int),s',x,y,o,()))
   (λa=>Int.toNat a.1) (λr=>r.1=false/\∃s' o',NB s' (k+200)/\o'.length<=200/\r.2=(0,s',x,y,o',()))
   (by
    rintro a ⟨i,s',o,hi,hs',ho,rfl⟩;cases i with
    |zero=>
     right;left;exact⟨_,by simp only[Zfc,RT.val];rfl,rfl,s',o,hs'.up (by omega),by omega,rfl⟩
    |succ i=>
     left;have d:decide (((i+1:Nat):Int)>0)=true:=Yz (by omega);have w:IntKind.wrap .i64 (((i+1:Nat):Int)-1)=(i:Int):=by rw[wrap_i64 _ (by omega) (by omega)];omega
     obtain⟨k0,b0,e0,e1⟩:=Zs hs' (by omega) 6 (by decide) (by decide);obtain⟨k1,b1,_⟩:=Zkv b0 (by omega);have r1:Zf (Za s' 6).1 6=true:=ZF.2 ⟨e0,e1⟩;have hsb:∀a b c:Int,smB [a,b,c]=true:=λa b c=>ZSS (by simp)
     have hll:=Zx0 (IntKind.wrap .u16 (R.get (R.int .i64) [36,60,52,44,56,32] (Za s' 6).1)) [(Zam (Za s' 6).2).1,251,201];simp only[List.length_cons,List.length_nil] at hll;have hb:Nat.ble (o++Zo4 (IntKind.wrap .u16 (R.get (R.int .i64) [36,60,52,44,56,32] (Za s' 6).1)) [(Zam (Za s' 6).2).1,251,201]).length most=true:=ZaV (by rw[Yd];omega);refine⟨((i:Int),(Zam (Za s' 6).2).2,x,y,o++Zo4 (IntKind.wrap .u16 (R.get (R.int .i64) [36,60,52,44,56,32] (Za s' 6).1)) [(Zam (Za s' 6).2).1,251,201],()),?_,⟨i,_,_,by omega,b1.up (by omega),by rw[Yd];omega,rfl⟩,by simp only;omega⟩
     simp only[Zfc,RT.val,hg,List.length_cons,List.length_nil,Nat.reduceAdd,d,w,k0,k1,r1,hsb,hb,Ya,Yf,Yi,Yj,Yw])
   ((q:Int),(Za (Zcf s2 12).2 4).2,x,y,o,()) ⟨q,_,o,Ye _,b9.up (by omega),by omega,rfl⟩ (by simp only;omega)
  obtain⟨r1,r2⟩:=r;simp only at h1 g3;subst h1 g3;exact⟨s',o',g1,g2,hr⟩
 obtain⟨s',o',g1,g2,hr⟩:=key (0,[],0,0,0,false,[]) ((Za0 s).1,(nMap (Za0 s).2).1,(Za (nMap (Za0 s).2).2 3).1,bif (Za (Za (Za (nMap (Za0 s).2).2 3).2 4).2 6).1==0 then (Zc3 (Za (Za (Za (nMap (Za0 s).2).2 3).2 4).2 6).2).1 else 0,
  bif (Za (Za (Za (nMap (Za0 s).2).2 3).2 4).2 6).1==0 then (Zc3 (Zc3 (Za (Za (Za (nMap (Za0 s).2).2 3).2 4).2 6).2).2).1 else 4,(Za (Za (nMap (Za0 s).2).2 3).2 4).1==0,[]) (0,[],0,0,0,false,[]) (Zo4 0 (Zcf s2 12).1) (by omega)
 have hsc:smC o'=true:=ZXo (by omega);have hsb:smB (Zcf s2 12).1=true:=ZSS (by omega);have hv:∃p d,(ZoT s).val=some (((Za0 s).1,(nMap (Za0 s).2).1,(Za (nMap (Za0 s).2).2 3).1,p,d,(Za (Za (nMap (Za0 s).2).2 3).2 4).1==0,normX o'),s'):=by
  refine⟨bif (Za (Za (Za (nMap (Za0 s).2).2 3).2 4).2 6).1==0 then (Zc3 (Za (Za (Za (nMap (Za0 s).2).2 3).2 4).2 6).2).1 else 0,
   bif (Za (Za (Za (nMap (Za0 s).2).2 3).2 4).2 6).1==0 then (Zc3 (Zc3 (Za (Za (Za (nMap (Za0 s).2).2 3).2 4).2 6).2).2).1 else 4,?_⟩
  simp only[ZoT,RT.val,hg,<-hs2,c0,c1,c2,c3,c4,c5,c6,c8,c9,hsb,hq,hr,hsc,okB,getO,Ya,Yf,Yi,Yj,Yw]
 obtain⟨p,d,hv⟩:=hv;have e1:ZoU s=true:=by simp only[ZoU,hv];rfl
 have e2:Zcu s=(((Za0 s).1,(nMap (Za0 s).2).1,(Za (nMap (Za0 s).2).2 3).1,p,d,(Za (Za (nMap (Za0 s).2).2 3).2 4).1==0,normX o'),s'):=by simp only[Zcu,hv,getO]
 rw[e2];exact⟨e1,g1.up (by omega),⟨_,b0,rfl⟩,hch,⟨w0,by show (Za (nMap (Za0 s).2).2 3).1<=2;omega⟩,o',g2,rfl⟩
theorem ZUa (s:Int) {l:Int} (h:0<=l):vOnC s l=true:=by simp only[vOnC,vOnT,RT.val,Yz h,Ya,okB]
theorem ZrG (s k:Int):Zir s k=true/\ -1<=Zdt s k/\Zdt s k<=7:=by
 obtain⟨r,hr,h0,h1,h2⟩:=ZI (fl:=false) (t:=Zdp) (fuel:=λ_=>9)
  (λa=>∃(i:Nat) (m:Int),i<=8/\ -1<=m/\m<=7/\a=(s,k,m,(i:Int),()))
  (λa=>Int.toNat (8-a.2.2.2.1)) (λr=>r.1=false/\ -1<=r.2.2.2.1/\r.2.2.2.1<=7)
  (by
   rintro a ⟨i,m,hi,h1,h2,rfl⟩;by_cases hlt:i<8
   ·left;have d:decide ((i:Int)<8)=true:=Yz (by omega);have w:IntKind.wrap .i64 ((i:Int)+1)=((i+1:Nat):Int):=by rw[wrap_i64 _ (by omega) (by omega)];omega
    have c:vOnC s (i:Int)=true:=ZUa s (by omega);refine⟨(s,k,bif vOn s (i:Int)&&(decide (m<0)||decide (Zda (i:Int) k<Zda m k)) then (i:Int) else m,((i+1:Nat):Int),()),by simp only[Zdp,RT.val,d,c,w,Ya],⟨i+1,_,by omega,?_,?_,rfl⟩,by simp only;omega⟩
    ·cases vOn s (i:Int)&&(decide (m<0)||decide (Zda (i:Int) k<Zda m k))<;>simp only[Ya,Yb]<;>omega
    ·cases vOn s (i:Int)&&(decide (m<0)||decide (Zda (i:Int) k<Zda m k))<;>simp only[Ya,Yb]<;>omega
   ·right;left;have d:decide ((i:Int)<8)=false:=YO (by omega)
    exact⟨(s,k,m,(i:Int),()),by simp only[Zdp,RT.val,d,Yb],rfl,h1,h2⟩)
  (s,k,-1,0,()) ⟨0,-1,by omega,by omega,by omega,rfl⟩ (by simp only;omega)
 obtain⟨r1,r2⟩:=r;simp only at h0 h1 h2;subst h0;have hv:(Zmu s k).val=some r2.2.2.1:=by simp only[Zmu,RT.val,hr,okB,getO,Ya]
 exact⟨by simp only[Zir,hv];rfl,by simp only[Zdt,hv,getO];exact h1,by simp only[Zdt,hv,getO];exact h2⟩
theorem ZyV (p:PICT):ZrF p=true/\ -1<=vPck p/\vPck p<=7:=by
 have key:∀r m s k q,∃v:Int,(Zmt r m s k q).val=some v/\ -1<=v/\v<=7:=by
  intro r m s k q;have h1:=ZrG (Z1 .u8 r m) k;have h2:=ZrG (ZcK m s q) k;simp only[Zmt,RT.val,h1.1,h2.1,Ya];cases decide (Zdt (Z1 .u8 r m) k>=0)&&(decide (Zdt (ZcK m s q) k<0)||decide (Zda (Zdt (Z1 .u8 r m) k) k<Zda (Zdt (ZcK m s q) k) k))
  ·exact⟨-1,rfl,by omega,by omega⟩
  ·exact⟨_,rfl,h1.2.1,h1.2.2⟩
 obtain⟨v,hv,h1,h2⟩:=key (vReq p) p.2.2.2.2.2.2.2.2.2.2.2.2.2.2.2.1 p.2.2.2.2.2.2.2.2.2.2.2.2.2.2.1 p.2.2.2.2.2.2.2.2.2.2.2.2.2.2.2.2.1 p.2.2.2.2.2.2.2.2.2.1;have e:(ZF3 p).val=some v:=by simp only[ZF3,RT.val,Zvk,ZF2,hv,okB,getO,Ya]
 exact⟨by simp only[ZrF,e];rfl,by simp only[vPck,e,getO];exact h1,by simp only[vPck,e,getO];exact h2⟩
variable {x:Int}
theorem ZCN (p:PICT) (h:0<=x):Zhz p x=true:=by simp only[Zhz,Zvh,RT.val,Yz h,Ya,okB]
theorem ZCP (p:PICT) (h:0<=x):Zis p x=true:=by simp only[Zis,ZCQ,RT.val,Yz h,Ya,okB]
theorem ZUf (p:PICT):ZPA p=true:=by
 have h1:=(ZyV p).1;have h3:∀q:PICT,Zis q (andI .i64 p.2.2.2.2.2.2.2.2.2.2.2.2.2.2.2.2.2.2.1 7)=true:=λq=>ZCP q (and7 _).1
 have h2:∀q:PICT,(!decide (vPck p>=0)||Zhz q (vPck p))=true:=λq=>by
  by_cases h:vPck p>=0
  ·rw[ZCN q h,Yj]
  ·rw[YO h];rfl
 unfold ZPA ZIS;simp only[RT.val,h1,h2,h3,Yj,Ya];cases p.2.2.2.2.2.2.2.2.2.2.2.2.2.2.2.2.2.1==0
 ·cases p.2.2.2.2.2.2.2.2.2.2.2.2.2.2.2.2.2.1==1
  ·rfl
  ·cases p.2.2.1<;>rfl
 ·rfl
theorem ZPw (p:PICT) (h:Bool):ZCO p h=true:=by
 have h1:=(ZyV p).1;unfold ZCO Zvj;by_cases hx:0<=vPck p
 ·have h2:∀q:PICT,Zhz q (vPck p)=true:=λq=>ZCN q hx
  have h3:∀q:PICT,Zis q (vPck p)=true:=λq=>ZCP q hx
  simp only[RT.val,h1,h2,h3,ZcQ,ZbO,Yj,Yf,Ya];cases h
  ·cases p.2.2.2.2.2.2.2.2.2.2.2.1
   ·cases p.2.2.2.2.2.2.2.2.2.2.1<;>rfl
   ·cases decide (vPck p<0)<;>rfl
  ·rfl
 ·have h2:decide (vPck p<0)=true:=Yz (by omega);simp only[RT.val,h1,h2,ZcQ,ZbO,Yj,Yv,Yf,Ya];cases h
  ·cases p.2.2.2.2.2.2.2.2.2.2.2.1
   ·cases p.2.2.2.2.2.2.2.2.2.2.1<;>rfl
   ·rfl
  ·rfl
theorem ZPy (p:PICT) (v:Int):Zvm p v=true:=by
 have h1:=λs k=>(ZrG s k).1
 have h2:∀x:Int,(!decide (x>=0)||decide (0<=x))=true:=λx=>by by_cases h:0<=x<;>simp[h]
 have h3:decide (0<=IntKind.wrap .i64 (andI .u8 v 7))=true:=by have:=ZYU v;rw[wrap_i64 _ (by omega) (by omega)];exact Yz this.1
 unfold Zvm Zvl;simp only[RT.val,h1,h2,h3,ZcQ,ZbO,Yj,Yf,Ya];rfl
theorem ZIN (p:PICT) (h:Bool) (v:Int):ZrD p h v=true:=by
 unfold ZrD Zmq;simp only[RT.val,ZPy,Yj,Ya];cases h
 ·cases andI .u8 v 16 !=0
  ·cases andI .u8 v 8==0<;>rfl
  ·rfl
 ·rfl
theorem ZeH (o:Bool) {n:Int} (h:0<=n):Zfo o n=true:=by simp only[Zfo,ZPt,RT.val,Yz h,Yj,Ya];cases o<;>rfl
theorem ZFZ (l:List INPT) (hl:l.length<=1000):ZCJ l=true/\(Zmo l).length=4*l.length:=by
 have hms:=mst;obtain⟨r,hr,h0,h1⟩:=ZI (fl:=false) (t:=ZdX) (fuel:=λ_=>1000000000000)
  (λa=>∃(i:Nat) (o:List Int),i<=l.length/\o.length=4*i/\a=(l,(l.length:Int),(i:Int),o,()))
  (λa=>Int.toNat (a.2.1-a.2.2.1)) (λr=>r.1=false/\r.2.2.2.2.1.length=4*l.length)
  (by
   rintro a ⟨i,o,hi,ho,rfl⟩;by_cases hlt:i<l.length
   ·left;have d:decide ((i:Int)<(l.length:Int))=true:=Yz (by omega);have d2:decide ((i:Int)>=65536)=false:=YO (by omega);have hin:Zf (i:Int) l.length=true:=ZF.2 ⟨by omega,by omega⟩;have w:IntKind.wrap .i64 ((i:Int)+1)=((i+1:Nat):Int):=by rw[wrap_i64 _ (by omega) (by omega)];omega
    have hb:∀a b c d:Int,Nat.ble (o++[a,b,c,d]).length most=true:=λa b c d=>ZaV (by simp;omega)
    have b0:=λx=>ZeH x (n:=0) (by decide)
    have b1:=λx=>ZeH x (n:=1) (by decide)
    have b2:=λx=>ZeH x (n:=2) (by decide)
    have b3:=λx=>ZeH x (n:=3) (by decide)
    have b4:=λx=>ZeH x (n:=4) (by decide)
    have b5:=λx=>ZeH x (n:=5) (by decide)
    have b6:=λx=>ZeH x (n:=6) (by decide)
    have b7:=λx=>ZeH x (n:=7) (by decide)
    have hv:∃a b c d:Int,(ZdX (l,(l.length:Int),(i:Int),o,())).val=some (Go1.cont (l,(l.length:Int),((i+1:Nat):Int),o++[a,b,c,d],())):=by simp only[ZdX,RT.val,d,d2,hin,w,hb,b0,b1,b2,b3,b4,b5,b6,b7,ZcQ,ZbO,Yj,Yf,Yi,Yw,Ya,Yb];exact⟨_,_,_,_,rfl⟩
    obtain⟨a,b,c,d,hv⟩:=hv;exact⟨_,hv,⟨i+1,_,by omega,by simp;omega,rfl⟩,by simp only;omega⟩
   ·right;left;have d:decide ((i:Int)<(l.length:Int))=false:=YO (by omega)
    exact⟨(l,(l.length:Int),(i:Int),o,()),by simp only[ZdX,RT.val,d,Yb],rfl,by simp only;omega⟩)
  (l,(l.length:Int),0,[],()) ⟨0,[],by omega,rfl,rfl⟩ (by simp only;omega)
 obtain⟨r1,r2⟩:=r;simp only at h0 h1;subst h0;have hv:(ZgS l).val=some r2.2.2.2.1:=by simp only[ZgS,RT.val,iN,Le,hr,okB,getO,Ya]
 exact⟨by simp only[ZCJ,hv];rfl,by simp only[Zmo,hv,getO];exact h1⟩
abbrev MacT:=List ZT×List Cell×List Int×List (Int×Int)
theorem Zmi (l:List ZT) (m:List Cell) (t v:Int):(ZcC l m t v).length<=m.length+1:=by
 have h:=Zel m;unfold ZcC;cases decide (Zcw l t>=0)&&(R.get GR l (Zcw l t)).2.2.1
 ·exact Yy h (YaO _)
 ·exact Yy (ZsA _ _) (by omega)
def pre (o:List (Int×Int)) (m:MacT):MacT:=(m.1,m.2.1,m.2.2.1,o++m.2.2.2)
theorem smCb (h:l.length<=1000000):smC l=true:=ZaV (by have:=mst;omega)
theorem smGb {l:List ZT} (h:l.length<=1000000):smG l=true:=ZaV (by have:=mst;omega)
def Zu (b:BRDT) (s:SYST) (i:INPT):SYST:=(s.1,s.2.1,(bif !b.2.2.2.2.2.1 then ZkY s.2.2.1 i.2.2.2.2.2.2.2.2.1 else s.2.2.1),s.2.2.2)
def Zbs (b:BRDT) (s:SYST) (i:INPT):LINT:=
 (i.1&&decide (ZcE s>=ZT1 b s.1.2.2.2.1),i.2.1||Zac s.2.2.2.1,i.2.2.1,i.2.2.2.1,i.2.2.2.2.1,i.2.2.2.2.2.1,i.2.2.2.2.2.2.1,i.2.2.2.2.2.2.2.1,
  bif b.2.2.2.2.2.1 then andI .u8 i.2.2.2.2.2.2.2.2.1 1==1 else vInt s.2.2.1)
def busS (b:BRDT) (s:SYST) (i:INPT):SYST×Int:=
 let x:=s.1.2.2.2.1
 let q:=ZeX b (IntKind.wrap .u8 x.2.1)
 let d:=Zio b (IntKind.wrap .u8 x.2.1)
 bif i.2.2.1||(Zq s.1 !=3|| !Za2 x.1) then (s,0) else
 bif decide (x.1>=1)&&decide (x.1<=5) then (s,Zk1 b.2.1 s.2.1 x.2.1) else
 bif x.1 !=6&&b.2.2.2.2.2.1 then (s,i.2.2.2.2.2.2.2.2.2) else
 bif x.1 !=6 then ((s.1,s.2.1,(vAck s.2.2.1).1,s.2.2.2),(vAck s.2.2.1).2) else
 bif q.2 then ((s.1,s.2.1,(ZpX s.2.2.1 q.1).1,s.2.2.2),(ZpX s.2.2.1 q.1).2) else
 bif d.2 then (s,Zms s.2.2.2.1 d.1) else (s,i.2.2.2.2.2.2.2.2.2)
def Zqp (b:BRDT) (s:SYST) (x:TY):SYST:=
 let q:=ZeX b (IntKind.wrap .u8 x.2.1)
 let d:=Zio b (IntKind.wrap .u8 x.2.1)
 bif x.1 !=7 then (s.1,ZcC b.2.1 s.2.1 x.2.1 x.2.2.1,s.2.2) else
 (s.1,s.2.1,(bif q.2 then Zmr s.2.2.1 q.1 x.2.2.1 else s.2.2.1),(bif q.2 then s.2.2.2.1 else bif d.2 then ZhR s.2.2.2.1 d.1 x.2.2.1 else s.2.2.2.1),s.2.2.2.2.1,
  s.2.2.2.2.2++[(IntKind.wrap .u8 x.2.1,x.2.2.1)])
def ZUB (p:PICT) (n:Int):PICT:=
 (p.1,p.2.1,p.2.2.1,p.2.2.2.1,p.2.2.2.2.1,p.2.2.2.2.2.1,p.2.2.2.2.2.2.1,p.2.2.2.2.2.2.2.1,p.2.2.2.2.2.2.2.2.1,p.2.2.2.2.2.2.2.2.2.1,p.2.2.2.2.2.2.2.2.2.2.1,p.2.2.2.2.2.2.2.2.2.2.2.1,
  p.2.2.2.2.2.2.2.2.2.2.2.2.1,p.2.2.2.2.2.2.2.2.2.2.2.2.2.1,p.2.2.2.2.2.2.2.2.2.2.2.2.2.2.1,p.2.2.2.2.2.2.2.2.2.2.2.2.2.2.2.1,p.2.2.2.2.2.2.2.2.2.2.2.2.2.2.2.2.1,n,p.2.2.2.2.2.2.2.2.2.2.2.2.2.2.2.2.2.2)
def Zhv (p:PINT):Bool:=p.2.2.2.2.2.2.2.2.2.2.2.2.2.2.2.1
def ZjP (s:SYST) (i:INPT):Bool:= !i.2.2.1&&(Zq s.1==3&&ZbV s.1.2.2.2.1.1)
def ZjD (b:BRDT) (s:SYST) (i:INPT):SYST:=
 let t:=Zu b s i
 let u:=busS b t i
 ((Zn u.1.1 (Zbs b t i) u.2),u.1.2.1,u.1.2.2.1,u.1.2.2.2.1,ZcE t,u.1.2.2.2.2.2)
def Zds (b:BRDT) (s:SYST) (i:INPT):SYST:=bif ZjP s i then Zqp b (ZjD b s i) s.1.2.2.2.1 else ZjD b s i
def pinS (b:BRDT) (s:SYST) (i:INPT):PINT:=ZbM (busS b (Zu b s i) i).1.1 (Zbs b (Zu b s i) i) (busS b (Zu b s i) i).2
def ZcT (b:BRDT) (s:SYST) (i:INPT):Bool:=Zhv (pinS b s i)&&Zac (Zds b s i).2.2.2.1
def Zk9 (b:BRDT) (s:SYST) (i:INPT):SYST:=
 let w:=Zds b s i
 bif ZcT b s i then (w.1,ZcC b.2.1 w.2.1 w.2.2.2.1.1 w.2.2.2.1.2.1,w.2.2.1,(IntKind.wrap .u16 (w.2.2.2.1.1+1),w.2.2.2.1.2.1,IntKind.wrap .i64 (w.2.2.2.1.2.2-1)),w.2.2.2.2) else w
def ZDl (s:SYST) (r:Bool):SYST:=bif r then (s.1,s.2.1,ZUB s.2.2.1 0,(s.2.2.2.1.1,s.2.2.2.1.2.1,0),s.2.2.2.2) else s
def Zaj (b:BRDT) (s:SYST) (i:INPT):SYST×PINT×LINT×Int×Cell×Bool:=
 (ZDl (Zk9 b s i) i.2.2.1,pinS b s i,Zbs b (Zu b s i) i,(busS b (Zu b s i) i).2,
  (bif ZcT b s i then ((Zds b s i).2.2.2.1.1,(Zds b s i).2.2.2.1.2.1) else (0,0)),ZcT b s i)
theorem Zhr (b:BRDT) (s:SYST) (i:INPT):(busS b s i).1.1=s.1/\(busS b s i).1.2.1=s.2.1/\(busS b s i).1.2.2.2=s.2.2.2:=by
 unfold busS;dsimp only;cases i.2.2.1||(Zq s.1 !=3|| !Za2 s.1.2.2.2.1.1)
 ·cases decide (s.1.2.2.2.1.1>=1)&&decide (s.1.2.2.2.1.1<=5)
  ·cases s.1.2.2.2.1.1 !=6
   ·cases (ZeX b (IntKind.wrap .u8 s.1.2.2.2.1.2.1)).2
    ·cases (Zio b (IntKind.wrap .u8 s.1.2.2.2.1.2.1)).2<;>exact⟨rfl,rfl,rfl⟩
    ·exact⟨rfl,rfl,rfl⟩
   ·cases b.2.2.2.2.2.1<;>exact⟨rfl,rfl,rfl⟩
  ·exact⟨rfl,rfl,rfl⟩
 ·exact⟨rfl,rfl,rfl⟩
theorem ZJC (b:BRDT) (s:SYST) (x:TY):(Zqp b s x).1=s.1/\(Zqp b s x).2.1.length<=s.2.1.length+1/\(Zqp b s x).2.2.2.2.2.length<=s.2.2.2.2.2.length+1:=by
 have:=Zmi b.2.1 s.2.1 x.2.1 x.2.2.1;unfold Zqp;dsimp only;cases x.1 !=7
 ·exact⟨rfl,by simp only[Yb];omega,by simp only[Yb];simp⟩
 ·exact⟨rfl,by simp only[Ya];omega,by simp only[Ya];omega⟩
theorem ZSo (b:BRDT) (s:SYST) (i:INPT):(ZjD b s i).2.1=s.2.1/\(ZjD b s i).2.2.2.2.2=s.2.2.2.2.2:=by have h:=Zhr b (Zu b s i) i;unfold ZjD;simp only[h.1,h.2.1,h.2.2];exact⟨rfl,rfl⟩
theorem ZIz (b:BRDT) (s:SYST) (i:INPT):(Zds b s i).1=(ZjD b s i).1/\(Zds b s i).2.1.length<=s.2.1.length+1/\(Zds b s i).2.2.2.2.2.length<=s.2.2.2.2.2.length+1:=by
 have h1:=ZSo b s i;have h2:=ZJC b (ZjD b s i) s.1.2.2.2.1;rw[h1.1,h1.2] at h2;unfold Zds;cases ZjP s i
 ·exact⟨rfl,by simp only[Yb,h1.1];omega,by simp only[Yb,h1.2];omega⟩
 ·exact h2
theorem ZyA (b:BRDT) (s:SYST) (i:INPT):(Zaj b s i).1.1=(ZjD b s i).1/\(Zaj b s i).1.2.1.length<=s.2.1.length+2/\(Zaj b s i).1.2.2.2.2.2.length<=s.2.2.2.2.2.length+1:=by have h1:=ZIz b s i;have h2:=Zmi b.2.1 (Zds b s i).2.1 (Zds b s i).2.2.2.1.1 (Zds b s i).2.2.2.1.2.1;unfold Zaj ZDl Zk9;dsimp only;cases ZcT b s i<;>cases i.2.2.1<;>simp only[Ya,Yb]<;>exact⟨h1.1,by omega,h1.2.2⟩
