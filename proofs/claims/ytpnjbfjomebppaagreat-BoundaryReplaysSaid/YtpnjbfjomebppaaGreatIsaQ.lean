import Derived.Test.YtpnjbfjomebppaaGreatRunL
import Derived.Test.YtpnjbfjomebppaaGreatS3New
open Go.Proofs.Tryz (prog)
open Go.IntKind (u8 u16 i64)
set_option linter.unusedSimpArgs false
open Go Go.S3 Go.Proofs
set_option linter.unusedVariables false
set_option maxRecDepth 100000
namespace Go.Proofs.YtpnjbfjomebppaaGreat
noncomputable section
def ZUl:LS:={n:=53,Sl:=[(3,.fix (A.loc 0 0)),(5,.tip 0),(6,.code (So R.bool)),(9,.code (So rcCE)),(10,.code (So Kc)),(11,.code (So Kc))],Bx:=[[.many (R.Pq Kb Ka)]],Sg:=[⟨(R.Pq Kb Ka),75,false⟩]}
def ZGv (a:QT9):RT (Option (Go1 (QT9))):=
 let x1:Int×Int:=R.get (R.Pq Kb Ka) a.2.1 a.2.2.2.1
 let x2:=x1.1
 let x3:= !a.1&&decide (x2>=a.2.2.2.2.1.1)
 let x4:List (Int×Int):=a.2.2.2.2.2.1++[a.2.2.2.2.1]
 let x5:= !x3||(!a.2.2.2.2.1.2 !=0||Nat.ble (Le x4) most)
 let x6:=x2 !=a.2.2.2.2.1.1
 let x7:List (Int×Int):=bif x3 then bif a.2.2.2.2.1.2 !=0 then x4 else a.2.2.2.2.2.1 else a.2.2.2.2.2.1
 let x8:List (Int×Int):=x7++[x1]
 .br (decide (a.2.2.2.1<a.2.2.1)) (.br (!Ze a.2.2.2.1 (Le a.2.1)||(!x5||(!x6||Nat.ble (Le x8) most))) (.br (!Ze a.2.2.2.1 (Le a.2.1)||x5) (.br (Ze a.2.2.2.1 (Le a.2.1)) (Ls (Go1.cont (x3||a.1,a.2.1,a.2.2.1,i64.wrap (a.2.2.2.1+1),a.2.2.2.2.1,bif x6 then x8 else x7,PUnit.unit))) Ln) Ln) Ln) (Ls (Go1.brk (a.1,a.2.1,a.2.2.1,a.2.2.2.1,a.2.2.2.2.1,a.2.2.2.2.2.1,PUnit.unit)))
def ZGw:Ora:=ZaB false ZUl ZGv (λa=>10000000000000)
theorem ZJg:Zal (envX prog [] [] 511 8) (.block 0 (.loop (ZQ Tryz.f165.body 0))) ZGw:=
 loopP trivial
def ZGu (m:List (Int×Int)) (c:Int×Int):RT (Option (List (Int×Int))):=
 let x1:QT9:=(false,m,iN (Le m),0,c,[],())
 let x2:=runF false ZGv (λa=>10000000000000) x1
 let x3:QT9:=(getO (false,x1) x2).2
 let x4:=x3.2.2.2.2
 let x5:=x4.1
 let x6:= !x3.1&&x5.2 !=0
 let x7:=x4.2.1
 let x8:List (Int×Int):=x7++[x5]
 .br (okB x2) (.br (!x6||Nat.ble (Le x8) most) (Ls (bif x6 then x8 else x7)) Ln) Ln
def ZUm (m:List (Int×Int)) (c:Int×Int):List (Int×Int):=getO [] (ZGu m c).val
def ZGx (m:List (Int×Int)) (c:Int×Int):Bool:=okB (ZGu m c).val
def ZOE:En:=frzE (newE Zci ZsU ZOH (λa=>some (ZGx a.1 a.2)) (λa=>ZUm a.1 a.2))
theorem ZOF:Za prog 165 (newE Zci ZsU ZOH (λa=>some (ZGx a.1 a.2)) (λa=>ZUm a.1 a.2)):=
 ZlT (P:=prog) (n:=511) (k:=8) (l:=[]) (ol:=[(0,ZGw)]) trivial Tryz.func165 rfl (by kernel_rfl) Tryz.call165 ⟨ZJg,Tv⟩ (r:=Zci) (T:=ZsU) (ts:=ZOH) (t:=λa=>ZGu a.1 a.2) (λa=>by kernel_rfl)
theorem ZGt:Za prog 165 ZOE:=ZzV ZOF
def ZO0:LS:={n:=21,Sl:=[(3,.tip 0),(10,.code (So rcCE)),(11,.code (So Kc)),(12,.code (So Kc))],Bx:=[],Sg:=[⟨(R.Pq Kb Ka),75,false⟩]}
def Zgj (a:List (Int×Int)×Int×Int×List (Int×Int)×PUnit):RT (Option (Go1 (List (Int×Int)×Int×Int×List (Int×Int)×PUnit))):=
 .br (decide (a.2.2.1<a.2.1)) (.br (!Ze a.2.2.1 (Le a.1)||ZGx a.2.2.2.1 (R.get (R.Pq Kb Ka) a.1 a.2.2.1)) (.br (Ze a.2.2.1 (Le a.1)) (Ls (Go1.cont (a.1,a.2.1,i64.wrap (a.2.2.1+1),Stg.l (newG Zci ZsU (ZUm a.2.2.2.1 (R.get (R.Pq Kb Ka) a.1 a.2.2.1))),PUnit.unit))) Ln) Ln) (Ls (Go1.brk (a.1,a.2.1,a.2.2.1,a.2.2.2.1,PUnit.unit)))
def Zyw:Ora:=ZaB false ZO0 Zgj (λa=>10000000000000)
theorem ZBJ:Zal (envX prog [(105,ZlA),(165,ZOE)] [] 63 8) (.block 0 (.loop (ZQ Tryz.f93.body 0))) Zyw:=
 loopP ⟨Zj4,ZGt,Tv⟩
def Zj5 (l:List (Int×Int)):RT (Option (List (Int×Int))):=
 let x1:=runF false Zgj (λa=>10000000000000) (l,iN (Le l),0,[],())
 .br (smC l) (.br (!vldB l||Nat.ble (Le ([]++l)) most) (.br (vldB l) (Ls ([]++l)) (.br (okB x1) (Ls (getO (false,l,iN (Le l),0,[],()) x1).2.2.2.2.1) Ln)) Ln) Ln
def Zyx (l:List (Int×Int)):List (Int×Int):=getO [] (Zj5 l).val
def Zm9 (l:List (Int×Int)):Bool:=okB (Zj5 l).val
def ZBK:En:=frzE (newE Zci ZsU ZEy (λa=>some (Zm9 a)) (λa=>Zyx a))
theorem ZJj:Za prog 93 (newE Zci ZsU ZEy (λa=>some (Zm9 a)) (λa=>Zyx a)):=
 ZlT (P:=prog) (n:=63) (k:=8) (l:=[(105,ZlA),(165,ZOE)]) (ol:=[(0,Zyw)]) ⟨Zj4,ZGt,Tv⟩ Tryz.func93 rfl (by kernel_rfl) Tryz.call93 ⟨ZBJ,Tv⟩ (r:=Zci) (T:=ZsU) (ts:=ZEy) (t:=λa=>Zj5 a) (λa=>by kernel_rfl)
theorem Zyv:Za prog 93 ZBK:=ZzV ZJj
abbrev ZtR:List Sh:=[So Kb,So (R.sl Ka)]
def ZO7:LS:={n:=27,Sl:=[(0,.code (So Kb)),(1,.code (So (R.sl Ka))),(5,.tip 0),(8,.code (So Kc)),(9,.code (So Kc))],Bx:=[],Sg:=[⟨(R.Pq Kb Ka),75,true⟩]}
def Zgl (a:QT27):RT (Option (Go1 (QT27))):=
 let x1:List (Int×Int):=a.2.2.2.2.1++[(u16.wrap (a.1+u16.wrap a.2.2.2.1),R.get Ka a.2.1 a.2.2.2.1)]
 let x2:= !Ze a.2.2.2.1 (Le a.2.1)||Nat.ble (Le x1) most
 .br (decide (a.2.2.2.1<a.2.2.1)) (.br (!x2||Ze a.2.2.2.1 (Le a.2.1)) (.br (x2) (Ls (Go1.cont (a.1,a.2.1,a.2.2.1,i64.wrap (a.2.2.2.1+1),x1,PUnit.unit))) Ln) Ln) (Ls (Go1.brk (a.1,a.2.1,a.2.2.1,a.2.2.2.1,a.2.2.2.2.1,PUnit.unit)))
def Zyy:Ora:=ZaB false ZO7 Zgl (λa=>10000000000000)
theorem ZCo:Zal (envX prog [(93,ZBK)] [] 127 8) (.block 0 (.loop (ZQ Tryz.f59.body 0))) Zyy:=
 loopP ⟨Zyv,Tv⟩
def ZnN (t:Int) (b:List Int):RT (Option (List (Int×Int))):=
 let x1:=runF false Zgl (λa=>10000000000000) (t,b,iN (Le b),0,[],())
 let x2:List (Int×Int):=(getO (false,t,b,iN (Le b),0,[],()) x1).2.2.2.2.2.1
 .br (okB x1) (.br (Zm9 x2) (Ls (Stg.l (newG Zci ZsU (Zyx x2)))) Ln) Ln
def ZO8 (t:Int) (b:List Int):List (Int×Int):=getO [] (ZnN t b).val
def ZCp (t:Int) (b:List Int):Bool:=okB (ZnN t b).val
theorem ZJw:Za prog 59 (newE Zci ZsU ZtR (λa=>some (ZCp a.1 a.2)) (λa=>ZO8 a.1 a.2)):=
 ZlT (P:=prog) (n:=127) (k:=8) (l:=[(93,ZBK)]) (ol:=[(0,Zyy)]) ⟨Zyv,Tv⟩ Tryz.func59 rfl (by kernel_rfl) Tryz.call59 ⟨ZCo,Tv⟩ (r:=Zci) (T:=ZsU) (ts:=ZtR) (t:=λa=>ZnN a.1 a.2) (λa=>by kernel_rfl)
end
end Go.Proofs.YtpnjbfjomebppaaGreat
open Go Go.S3 Go.Proofs Go.Proofs.Cells
namespace Go.Proofs.YtpnjbfjomebppaaGreat
noncomputable section
theorem ZN9 (m:List Cell) (c:Cell) (hv:Vld m) (hm:m.length+1<=most):ZGx m c=true/\ZUm m c=putX m c:=by have h:=ZmQ m c hv hm;have e:ZGu m c=Zru m c:=rfl;simp only[Zrv,ZJi,<-e] at h;exact h
theorem ZI1 (l:List Cell) (hl:l.length+1<=most):Zm9 l=true/\Zyx l=normX l:=by
 have hms:=mst;have hs:smC l=true:=(Zq8.2 hl:sm l=true);have hv:(Zj5 l).val=some (normX l):=by
  cases hb:vldB l with
  |true=>
   have e:Nat.ble l.length most=true:=by rw[YP];omega
   simp only[Zj5,RT.val,hs,hb,List.nil_append,e,Ya,Yg,Yj,Zkl (ZsI.1 hb)]
  |false=>
   obtain⟨r,hr,h1,i,hR⟩:=ZC (fl:=false) (t:=Zgj) (fuel:=λa=>10000000000000)
    (λa=>∃i:Nat,i<=l.length/\a=(l,(l.length:Int),(i:Int),normX (l.take i),()))
    (λa=>Int.toNat (a.2.1-a.2.2.1)) (λr=>r.1=false/\∃i:Nat,r.2=(l,(l.length:Int),(i:Int),normX l,()))
    (by
     rintro a ⟨i,hi,rfl⟩;by_cases hlt:i<l.length
     ·left;have d:decide ((i:Int)<(l.length:Int))=true:=by simpa using hlt
      have r1:=Zaz l i hlt;have hlen:=Zd4 (l.take i);rw[YA] at hlen;have hp:=ZN9 (normX (l.take i)) (el l i) (ZeS _) (by omega);refine⟨_,?_,⟨i+1,hlt,rfl⟩,by simp only;omega⟩;rw[ZAZ l i hlt,Zkk];simp only[Zgj,RT.val,d,r1,Zb4,hp.1,hp.2,Ya,Yf,ZhH i (by omega)]
     ·right;left;have d:decide ((i:Int)<(l.length:Int))=false:=by simpa using hlt
      have e:l.take i=l:=Y4 (by omega);rw[e]
      exact⟨_,by simp only[Zgj,RT.val,d,Yc],rfl,i,rfl⟩)
    (l,iN l.length,0,[],()) ⟨0,Ys _,rfl⟩ (by simp only[iN,Le];omega)
   obtain⟨r1,r2⟩:=r;simp only at h1 hR;subst h1 hR;simp only[Zj5,RT.val,hs,hb,hr,okB,getO,Ya,Yc,Ym,Yt]
 exact⟨by simp only[Zm9,hv];rfl,by simp only[Zyx,hv,getO]⟩
theorem ZI2 (t:Int) (b:List Int) (hb:b.length+1<=most):ZCp t b=true/\ZO8 t b=Zqx t b:=by
 have hms:=mst;obtain⟨r,hr,h1,hR⟩:=ZC (fl:=false) (t:=Zgl) (fuel:=λa=>10000000000000)
  (λa=>∃i:Nat,i<=b.length/\a=(t,b,(b.length:Int),(i:Int),ZpB t b i,()))
  (λa=>Int.toNat (a.2.2.1-a.2.2.2.1)) (λr=>r.1=false/\r.2=(t,b,(b.length:Int),(b.length:Int),ZpB t b b.length,()))
  (by
   rintro a ⟨i,hi,rfl⟩;by_cases hlt:i<b.length
   ·left;have d:decide ((i:Int)<(b.length:Int))=true:=by simpa using hlt
    have r1:=Zaz b i hlt;have hl:∀x:Cell,Nat.ble (ZpB t b i++[x]).length most=true:=λx=>by rw[YP,Yd,ZpA];simp only[List.length_singleton];omega
    refine⟨_,?_,⟨i+1,hlt,rfl⟩,by simp only;omega⟩;rw[ZLE];have g:=get_d b i;simp only[Zgl,RT.val,d,r1,g,hl,Ya,Yg,Yj,ZhH i (by omega)]
   ·right;left;have d:decide ((i:Int)<(b.length:Int))=false:=by simpa using hlt
    have e:i=b.length:=by omega
    subst e
    exact⟨_,by simp only[Zgl,RT.val,d,Yc],rfl,rfl⟩)
  (t,b,iN b.length,0,[],()) ⟨0,Ys _,rfl⟩ (by simp only[iN,Le];omega)
 obtain⟨r1,r2⟩:=r;simp only at h1 hR;subst h1 hR;have hn:=ZI1 (ZpB t b b.length) (by rw[ZpA];exact hb);have hv:(ZnN t b).val=some (Zqx t b):=by simp only[ZnN,RT.val,hr,okB,getO,Ya,hn.1,hn.2,Zqx]
 exact⟨by simp only[ZCp,hv];rfl,by simp only[ZO8,hv,getO]⟩
def ZtS:En:=frzE (newE Zci ZsU ZtR (λa=>some (smB a.2)) (λa=>Zqx a.1 a.2))
theorem ZrC:Za Tryz.prog 59 ZtS:=ZzV (ZLo ZJw λa _ h=>by
 have hb:smB a.2=true:=by cases hq:smB a.2 with
  |true=>rfl
  |false=>rw[hq] at h;exact absurd rfl h
 obtain⟨h1,h2⟩:=ZI2 a.1 a.2 (Zq8.1 hb)
 exact⟨by rw[h1];simp,h2⟩)
def ZHQ (s:List Int×Int):RT (Option (Bool×List Int×Int)):=
 .br (Zj s 2) (Ls (((Zd s 2).1==1,(Zd s 2).2))) Ln
def Zac (s:List Int×Int):Bool×List Int×Int:=getO (Zof.Df,ZEn.Df) (ZHQ s).val
def Zbg (s:List Int×Int):Bool:=okB (ZHQ s).val
def ZXM:En:=boxE ZEn ZyL Zof (λa=>some (Zbg a.1)) (λa=>Zac a.1)
theorem ZVu:Za prog 69 ZXM:=
 Zb8 (P:=prog) (n:=7) (k:=8) (l:=[(68,Zco)]) (ol:=[]) ⟨Za2,Tv⟩ Tryz.func69 rfl (by kernel_rfl) Tryz.call69 trivial (rb:=ZEn) (ts:=ZyL) (rs:=Zof) (t:=λa=>ZHQ a.1) (λa=>by kernel_rfl)
abbrev ZeT:R:=R.Pq Kb (R.Pq Kb (R.Pq R.bool Kc))
abbrev ZeU:Nat:=110
def ZEj:LS:={n:=44,Sl:=[(0,.fix (A.loc 0 0)),(5,.tip 0),(6,.code (So Kc))],Bx:=[[.many (R.Pq (R.sl Kc) Kc)]],Sg:=[⟨(R.Pq Kb (R.Pq Kb (R.Pq R.bool Kc))),110,false⟩]}
def Zd7 (a:QT18):RT (Option (Go1 (QT18))):=
 let x1:= !Zj (Zbz a.2.1).2 6||Ze (Zd (Zbz a.2.1).2 6).1 (Le [0,3,15,255,4095,65535])
 let x2:= !x1
 let x3:= !Zj (Zd (Zd (Zbz a.2.1).2 6).2 3).2 5
 let x4:Int:=(Zd (Zd (Zd (Zbz a.2.1).2 6).2 3).2 5).1
 let x5:=Ze x4 (Le [0,0,1,2,5])
 let x6:=i64.wrap (i64.wrap (Zbz a.2.1).1+R.get Kc [0,3,15,255,4095,65535] (Zd (Zbz a.2.1).2 6).1)
 let x7:List (QT3):=a.2.2.1++[((Zbz a.2.1).1,u16.wrap (if 65535<x6 then 65535 else x6),decide ((Zd (Zd (Zbz a.2.1).2 6).2 3).1>0),R.get Kc [0,0,1,2,5] x4)]
 let x8:= !Zj (Zd (Zbz a.2.1).2 6).2 3||(x3||(!x5||Nat.ble (Le x7) most))
 let x9:= !x8
 let x10:= !Zj (Zd (Zbz a.2.1).2 6).2 3||(x3||x5)
 let x11:= !x10
 let x12:= !Zj (Zd (Zbz a.2.1).2 6).2 3||Zj (Zd (Zd (Zbz a.2.1).2 6).2 3).2 5
 .br (decide (a.1>0)) (.br (!ZfK a.2.1||(x2||(!Zj (Zbz a.2.1).2 6||(x9||(x11||(!x12||Zj (Zd (Zbz a.2.1).2 6).2 3)))))) (.br (!ZfK a.2.1||(x2||(!Zj (Zbz a.2.1).2 6||(x9||(x11||x12))))) (.br (!ZfK a.2.1||(x2||(!Zj (Zbz a.2.1).2 6||(x9||x10)))) (.br (!ZfK a.2.1||(x2||(!Zj (Zbz a.2.1).2 6||x8))) (.br (!ZfK a.2.1||(x2||Zj (Zbz a.2.1).2 6)) (.br (!ZfK a.2.1||x1) (.br (ZfK a.2.1) (Ls (Go1.cont (i64.wrap (a.1-1),(Zd (Zd (Zd (Zbz a.2.1).2 6).2 3).2 5).2,x7,PUnit.unit))) Ln) Ln) Ln) Ln) Ln) Ln) Ln) (Ls (Go1.brk (a.1,a.2.1,a.2.2.1,PUnit.unit)))
def Zo5:Ora:=ZaB false ZEj Zd7 (λa=>400)
theorem Zv5:Zal (envX prog [(68,Zco),(70,ZRF)] [] 511 8) (.block 0 (.loop (ZQ Tryz.f188.body 0))) Zo5:=
 loopP ⟨Za2,ZHM,Tv⟩
def Zgx (s:List Int×Int) (n:Int):RT (Option (List (QT3)×List Int×Int)):=
 let x1:QT18:=((Zd s (i64.wrap (n+1))).1,(Zd s (i64.wrap (n+1))).2,[],())
 let x2:=runF false Zd7 (λa=>400) x1
 let x3:(List Int×Int)×List (QT3)×PUnit:=(getO (false,x1) x2).2.2
 .br (Zj s (i64.wrap (n+1))) (.br (okB x2) (Ls ((x3.2.1,x3.1))) Ln) Ln
def Zbc (s:List Int×Int) (n:Int):List (QT3)×List Int×Int:=getO ([],ZEn.Df) (Zgx s n).val
def Zc8 (s:List Int×Int) (n:Int):Bool:=okB (Zgx s n).val
def Zzg:En:=frzE (ZLq ZEn ZeT ZeU ZyV (λa=>some (Zc8 a.1 a.2)) (λa=>Zbc a.1 a.2))
theorem Zzh:Za prog 188 (ZLq ZEn ZeT ZeU ZyV (λa=>some (Zc8 a.1 a.2)) (λa=>Zbc a.1 a.2)):=
 ZRC (P:=prog) (n:=511) (k:=8) (l:=[(68,Zco),(70,ZRF)]) (ol:=[(0,Zo5)]) ⟨Za2,ZHM,Tv⟩ Tryz.func188 rfl (by kernel_rfl) Tryz.call188 ⟨Zv5,Tv⟩ (rb:=ZEn) (r:=ZeT) (T:=ZeU) (ts:=ZyV) (t:=λa=>Zgx a.1 a.2) (λa=>by kernel_rfl)
theorem ZEh:Za prog 188 Zzg:=ZzV Zzh
abbrev ZRK:Rs:=Rs.one (So rcRG)
def ZRJ (s:List Int×Int):RT (Option (List (QT3)×List Int×Int)):=
 let x1:List (QT3):=Stg.l (newG ZeT ZeU (Zbc s 2).1)++[(0,65535,true,i64.wrap (Int.tdiv (Zd (Zbc s 2).2 3).1 2))]
 .br (!Zc8 s 2||(!Zj (Zbc s 2).2 3||Nat.ble (Le x1) most)) (.br (!Zc8 s 2||Zj (Zbc s 2).2 3) (.br (Zc8 s 2) (Ls ((x1,(Zd (Zbc s 2).2 3).2))) Ln) Ln) Ln
def nMap (s:List Int×Int):List (QT3)×List Int×Int:=getO (ZRK.Df,ZEn.Df) (ZRJ s).val
def ZLt (s:List Int×Int):Bool:=okB (ZRJ s).val
def Z0j:En:=boxE ZEn ZyL ZRK (λa=>some (ZLt a.1)) (λa=>nMap a.1)
theorem ZRH:Za prog 123 Z0j:=
 Zb8 (P:=prog) (n:=7) (k:=8) (l:=[(68,Zco),(188,Zzg)]) (ol:=[]) ⟨Za2,ZEh,Tv⟩ Tryz.func123 rfl (by kernel_rfl) Tryz.call123 trivial (rb:=ZEn) (ts:=ZyL) (rs:=ZRK) (t:=λa=>ZRJ a.1) (λa=>by kernel_rfl)
def ZEl:LS:={n:=75,Sl:=[(0,.fix (A.loc 0 0)),(5,.tip 0),(6,.code (So Kc))],Bx:=[[.many (R.Pq (R.sl Kc) Kc)]],Sg:=[⟨Ka,5,true⟩]}
def ZcP (a:QT24):RT (Option (Go1 (QT24))):=
 let x1:=Ze (Zd (Zd a.2.1 8).2 4).1 (Le [33,49,1,17])
 let x2:= !x1
 let x3:=Zj (Zd (Zd (Zd a.2.1 8).2 4).2 256).2 4
 let x4:= !x3
 let x5:=Zd (Zd (Zd (Zd a.2.1 8).2 4).2 256).2 4
 let x6:=x5.1
 let x7:=Ze x6 (Le [0,0,1,255])
 let x8:List Int:=a.2.2.1++[R.get Ka [33,49,1,17] (Zd (Zd a.2.1 8).2 4).1,u8.wrap (Zd (Zd (Zd a.2.1 8).2 4).2 256).1,R.get Ka [0,0,1,255] x6]
 let x9:= !(Zd a.2.1 8).1==0||(!Zj (Zd a.2.1 8).2 4||(x2||(!Zj (Zd (Zd a.2.1 8).2 4).2 256||(x4||(!x7||Nat.ble (Le x8) most)))))
 let x10:= !x9
 let x11:= !(Zd a.2.1 8).1==0||(!Zj (Zd a.2.1 8).2 4||(x2||(!Zj (Zd (Zd a.2.1 8).2 4).2 256||(x4||x7))))
 let x12:= !x11
 let x13:= !(Zd a.2.1 8).1==0||(!Zj (Zd a.2.1 8).2 4||(x2||(!Zj (Zd (Zd a.2.1 8).2 4).2 256||x3)))
 let x14:= !x13
 let x15:= !(Zd a.2.1 8).1==0||(!Zj (Zd a.2.1 8).2 4||(x2||Zj (Zd (Zd a.2.1 8).2 4).2 256))
 let x16:= !x15
 let x17:= !(Zd a.2.1 8).1==0||(!Zj (Zd a.2.1 8).2 4||x1)
 let x18:= !x17
 let x19:= !(Zd a.2.1 8).1==0||Zj (Zd a.2.1 8).2 4
 let x20:= !x19
 let x21:List Int:=a.2.2.1++[62,(Zcy (Zd a.2.1 8).2).1,211,u8.wrap (Zd (Zcy (Zd a.2.1 8).2).2 8).1]
 let x22:=(Zd a.2.1 8).1==0||(!(Zd a.2.1 8).1==1||(!ZgA (Zd a.2.1 8).2||(!Zj (Zcy (Zd a.2.1 8).2).2 8||Nat.ble (Le x21) most)))
 let x23:= !x22
 let x24:=(Zd a.2.1 8).1==0||(!(Zd a.2.1 8).1==1||(!ZgA (Zd a.2.1 8).2||Zj (Zcy (Zd a.2.1 8).2).2 8))
 let x25:= !x24
 let x26:=(Zd a.2.1 8).1==0||(!(Zd a.2.1 8).1==1||ZgA (Zd a.2.1 8).2)
 let x27:= !x26
 let x28:=(Zd a.2.1 8).1==0||((Zd a.2.1 8).1==1||(!(Zd a.2.1 8).1==2||Nat.ble (Le (a.2.2.1++[251])) most))
 let x29:= !x28
 let x30:List Int:=a.2.2.1++[62,u8.wrap (i64.wrap (16+(Zd (Zd a.2.1 8).2 16).1)),211,0,62,(Zcy (Zd (Zd a.2.1 8).2 16).2).1,211,1,62,0,211,1]
 let x31:=(Zd a.2.1 8).1==0||((Zd a.2.1 8).1==1||((Zd a.2.1 8).1==2||(!(Zd a.2.1 8).1==3||(!Zj (Zd a.2.1 8).2 16||(!ZgA (Zd (Zd a.2.1 8).2 16).2||Nat.ble (Le x30) most)))))
 let x32:= !x31
 let x33:=(Zd a.2.1 8).1==0||((Zd a.2.1 8).1==1||((Zd a.2.1 8).1==2||(!(Zd a.2.1 8).1==3||(!Zj (Zd a.2.1 8).2 16||ZgA (Zd (Zd a.2.1 8).2 16).2))))
 let x34:= !x33
 let x35:=(Zd a.2.1 8).1==0||((Zd a.2.1 8).1==1||((Zd a.2.1 8).1==2||(!(Zd a.2.1 8).1==3||Zj (Zd a.2.1 8).2 16)))
 let x36:= !x35
 let x37:= !Zj (Zd (Zag (Zd a.2.1 8).2).2 64).2 4
 let x38:Int:=(Zd (Zd (Zag (Zd a.2.1 8).2).2 64).2 4).1
 let x39:=Ze x38 (Le [0,0,1,255])
 let x40:List Int:=a.2.2.1++[(Zag (Zd a.2.1 8).2).1,u8.wrap (Zd (Zag (Zd a.2.1 8).2).2 64).1,R.get Ka [0,0,1,255] x38]
 let x41:=(Zd a.2.1 8).1==0||((Zd a.2.1 8).1==1||((Zd a.2.1 8).1==2||((Zd a.2.1 8).1==3||(!ZbV (Zd a.2.1 8).2||(!Zj (Zag (Zd a.2.1 8).2).2 64||(x37||(!x39||Nat.ble (Le x40) most)))))))
 let x42:= !x41
 let x43:=(Zd a.2.1 8).1==0||((Zd a.2.1 8).1==1||((Zd a.2.1 8).1==2||((Zd a.2.1 8).1==3||(!ZbV (Zd a.2.1 8).2||(!Zj (Zag (Zd a.2.1 8).2).2 64||(x37||x39))))))
 let x44:= !x43
 let x45:=(Zd a.2.1 8).1==0||((Zd a.2.1 8).1==1||((Zd a.2.1 8).1==2||((Zd a.2.1 8).1==3||(!ZbV (Zd a.2.1 8).2||(!Zj (Zag (Zd a.2.1 8).2).2 64||Zj (Zd (Zag (Zd a.2.1 8).2).2 64).2 4)))))
 let x46:= !x45
 let x47:=(Zd a.2.1 8).1==0||((Zd a.2.1 8).1==1||((Zd a.2.1 8).1==2||((Zd a.2.1 8).1==3||(!ZbV (Zd a.2.1 8).2||Zj (Zag (Zd a.2.1 8).2).2 64))))
 let x48:=x10||(x12||(x14||(x16||(x18||(x20||(x23||(x25||(x27||(x29||(x32||(x34||(x36||(x42||(x44||(x46||(!x47||((Zd a.2.1 8).1==0||((Zd a.2.1 8).1==1||((Zd a.2.1 8).1==2||((Zd a.2.1 8).1==3||ZbV (Zd a.2.1 8).2))))))))))))))))))))
 let x49:= !x48
 let x50:=x10||(x12||(x14||(x16||(x18||(x20||(x23||(x25||(x27||(x29||(x32||(x34||(x36||(x42||(x44||(x46||x47)))))))))))))))
 let x51:= !x50
 let x52:=x10||(x12||(x14||(x16||(x18||(x20||(x23||(x25||(x27||(x29||(x32||(x34||(x36||(x42||(x44||x45))))))))))))))
 let x53:= !x52
 let x54:=x10||(x12||(x14||(x16||(x18||(x20||(x23||(x25||(x27||(x29||(x32||(x34||(x36||(x42||x43)))))))))))))
 let x55:= !x54
 let x56:=x10||(x12||(x14||(x16||(x18||(x20||(x23||(x25||(x27||(x29||(x32||(x34||(x36||x41))))))))))))
 let x57:= !x56
 let x58:=x10||(x12||(x14||(x16||(x18||(x20||(x23||(x25||(x27||(x29||(x32||(x34||x35)))))))))))
 let x59:= !x58
 let x60:=x10||(x12||(x14||(x16||(x18||(x20||(x23||(x25||(x27||(x29||(x32||x33))))))))))
 let x61:= !x60
 let x62:=x10||(x12||(x14||(x16||(x18||(x20||(x23||(x25||(x27||(x29||x31)))))))))
 let x63:= !x62
 let x64:=x10||(x12||(x14||(x16||(x18||(x20||(x23||(x25||(x27||x28))))))))
 let x65:= !x64
 let x66:=x10||(x12||(x14||(x16||(x18||(x20||(x23||(x25||x26)))))))
 let x67:= !x66
 let x68:=x10||(x12||(x14||(x16||(x18||(x20||(x23||x24))))))
 let x69:= !x68
 let x70:=x10||(x12||(x14||(x16||(x18||(x20||x22)))))
 let x71:= !x70
 let x72:=x10||(x12||(x14||(x16||(x18||x19))))
 let x73:= !x72
 let x74:=x10||(x12||(x14||(x16||x17)))
 let x75:= !x74
 let x76:=x10||(x12||(x14||x15))
 let x77:= !x76
 let x78:=x10||(x12||x13)
 let x79:= !x78
 let x80:=x10||x11
 let x81:List Int×Int:=(Zd (Zd (Zag (Zd a.2.1 8).2).2 64).2 4).2
 .br (decide (a.1>0)) (.br (!Zj a.2.1 8||(x49||(x51||(x53||(x55||(x57||(x59||(x61||(x63||(x65||(x67||(x69||(x71||(x73||(x75||(x77||(x79||(!x80||x9)))))))))))))))))) (.br (!Zj a.2.1 8||(x49||(x51||(x53||(x55||(x57||(x59||(x61||(x63||(x65||(x67||(x69||(x71||(x73||(x75||(x77||(x79||x80))))))))))))))))) (.br (!Zj a.2.1 8||(x49||(x51||(x53||(x55||(x57||(x59||(x61||(x63||(x65||(x67||(x69||(x71||(x73||(x75||(x77||x78)))))))))))))))) (.br (!Zj a.2.1 8||(x49||(x51||(x53||(x55||(x57||(x59||(x61||(x63||(x65||(x67||(x69||(x71||(x73||(x75||x76))))))))))))))) (.br (!Zj a.2.1 8||(x49||(x51||(x53||(x55||(x57||(x59||(x61||(x63||(x65||(x67||(x69||(x71||(x73||x74)))))))))))))) (.br (!Zj a.2.1 8||(x49||(x51||(x53||(x55||(x57||(x59||(x61||(x63||(x65||(x67||(x69||(x71||x72))))))))))))) (.br (!Zj a.2.1 8||(x49||(x51||(x53||(x55||(x57||(x59||(x61||(x63||(x65||(x67||(x69||x70)))))))))))) (.br (!Zj a.2.1 8||(x49||(x51||(x53||(x55||(x57||(x59||(x61||(x63||(x65||(x67||x68))))))))))) (.br (!Zj a.2.1 8||(x49||(x51||(x53||(x55||(x57||(x59||(x61||(x63||(x65||x66)))))))))) (.br (!Zj a.2.1 8||(x49||(x51||(x53||(x55||(x57||(x59||(x61||(x63||x64))))))))) (.br (!Zj a.2.1 8||(x49||(x51||(x53||(x55||(x57||(x59||(x61||x62)))))))) (.br (!Zj a.2.1 8||(x49||(x51||(x53||(x55||(x57||(x59||x60))))))) (.br (!Zj a.2.1 8||(x49||(x51||(x53||(x55||(x57||x58)))))) (.br (!Zj a.2.1 8||(x49||(x51||(x53||(x55||x56))))) (.br (!Zj a.2.1 8||(x49||(x51||(x53||x54)))) (.br (!Zj a.2.1 8||(x49||(x51||x52))) (.br (!Zj a.2.1 8||(x49||x50)) (.br (!Zj a.2.1 8||x48) (.br (Zj a.2.1 8) (.br ((Zd a.2.1 8).1==0) (Ls (Go1.cont (i64.wrap (a.1-1),x5.2,x8,PUnit.unit))) (.br ((Zd a.2.1 8).1==1) (Ls (Go1.cont (i64.wrap (a.1-1),(Zd (Zcy (Zd a.2.1 8).2).2 8).2,x21,PUnit.unit))) (.br ((Zd a.2.1 8).1==2) (Ls (Go1.cont (i64.wrap (a.1-1),(Zd a.2.1 8).2,a.2.2.1++[251],PUnit.unit))) (Ls (Go1.cont (i64.wrap (a.1-1),(bif (Zd a.2.1 8).1==3 then (Zcy (Zd (Zd a.2.1 8).2 16).2).2.1 else x81.1,bif (Zd a.2.1 8).1==3 then (Zcy (Zd (Zd a.2.1 8).2 16).2).2.2 else x81.2),bif (Zd a.2.1 8).1==3 then x30 else x40,PUnit.unit)))))) Ln) Ln) Ln) Ln) Ln) Ln) Ln) Ln) Ln) Ln) Ln) Ln) Ln) Ln) Ln) Ln) Ln) Ln) Ln) (Ls (Go1.brk (a.1,a.2.1,a.2.2.1,PUnit.unit)))
def Zo7:Ora:=ZaB false ZEl ZcP (λa=>400)
theorem Zv6:Zal (envX prog [(68,Zco),(71,Zzm),(119,Zhe)] [] 9511883889056940159 8) (.block 0 (.loop (ZQ Tryz.f124.body 0))) Zo7:=
 loopP ⟨Za2,ZlU,ZeV,Tv⟩
def Zgy (s:List Int×Int) (n:Int):RT (Option (List Int×List Int×Int)):=
 let x1:QT24:=((Zd s (i64.wrap (n+1))).1,(Zd s (i64.wrap (n+1))).2,[],())
 let x2:=runF false ZcP (λa=>400) x1
 let x3:(List Int×Int)×List Int×PUnit:=(getO (false,x1) x2).2.2
 .br (Zj s (i64.wrap (n+1))) (.br (okB x2) (Ls ((x3.2.1,x3.1))) Ln) Ln
def ZbU (s:List Int×Int) (n:Int):List Int×List Int×Int:=getO (ZMz.Df,ZEn.Df) (Zgy s n).val
def Zgz (s:List Int×Int) (n:Int):Bool:=okB (Zgy s n).val
def Zo8:En:=boxE ZEn ZyV ZMz (λa=>some (Zgz a.1 a.2)) (λa=>ZbU a.1 a.2)
theorem Zo6:Za prog 124 Zo8:=
 Zb8 (P:=prog) (n:=9511883889056940159) (k:=8) (l:=[(68,Zco),(71,Zzm),(119,Zhe)]) (ol:=[(0,Zo7)]) ⟨Za2,ZlU,ZeV,Tv⟩ Tryz.func124 rfl (by kernel_rfl) Tryz.call124 ⟨Zv6,Tv⟩ (rb:=ZEn) (ts:=ZyV) (rs:=ZMz) (t:=λa=>Zgy a.1 a.2) (λa=>by kernel_rfl)
abbrev Zv9:Rs:=Rs.one (Sh.agg (R.Pq Kc (R.Pq rcRG (R.Pq Kc (R.Pq Ka (R.Pq Ka (R.Pq R.bool rcCE)))))))
def ZRT:LS:={n:=50,Sl:=[(0,.fix (A.loc 0 0)),(2,.fix (A.loc 1 0)),(3,.fix (A.loc 2 0)),(4,.tip 0),(5,.code (So Kc))],Bx:=[[.many (R.Pq (R.sl Kc) Kc)],[.many (R.Pq Kc (R.Pq rcRG (R.Pq Kc (R.Pq Ka (R.Pq Ka (R.Pq R.bool rcCE))))))],[.many (R.Pq Kc (R.Pq rcRG (R.Pq Kc (R.Pq Ka (R.Pq Ka (R.Pq R.bool rcCE))))))]],Sg:=[⟨R.Pq Kb Ka,75,true⟩]}
def ZeX (a:QT17):RT (Option (Go1 (QT17))):=
 let x1:=Ze (Zd a.2.1 6).1 (Le [36,60,52,44,56,32])
 let x2:= !x1
 let x3:List Int:=[(Zag (Zd a.2.1 6).2).1,251,201]
 let x4:=smB x3
 let x5:List (Int×Int):=a.2.2.2.2.1++Stg.l (newG Zci ZsU (Zqx (u16.wrap (R.get Kc [36,60,52,44,56,32] (Zd a.2.1 6).1)) x3))
 let x6:= !Zj a.2.1 6||(x2||(!ZbV (Zd a.2.1 6).2||(!x4||Nat.ble (Le x5) most)))
 let x7:= !x6
 let x8:= !Zj a.2.1 6||(x2||(!ZbV (Zd a.2.1 6).2||x4))
 let x9:= !x8
 let x10:= !Zj a.2.1 6||(x2||ZbV (Zd a.2.1 6).2)
 let x11:= !x10
 let x12:= !Zj a.2.1 6||x1
 .br (decide (a.1>0)) (.br (x7||(x9||(x11||(!x12||Zj a.2.1 6)))) (.br (x7||(x9||(x11||x12))) (.br (x7||(x9||x10)) (.br (x7||x8) (.br (x6) (Ls (Go1.cont (i64.wrap (a.1-1),(Zag (Zd a.2.1 6).2).2,a.2.2.1,a.2.2.2.1,x5,PUnit.unit))) Ln) Ln) Ln) Ln) Ln) (Ls (Go1.brk (a.1,a.2.1,a.2.2.1,a.2.2.2.1,a.2.2.2.2.1,PUnit.unit)))
def Zzn:Ora:=ZaB false ZRT ZeX (λa=>400)
theorem ZEu:Zal (envX prog [(59,ZtS),(68,Zco),(71,Zzm),(93,Zgk),(119,Zhe),(122,ZRP),(123,Z0j),(124,Zo8)] [] 63 8) (.block 0 (.loop (ZQ Tryz.f66.body 0))) Zzn:=
 loopP ⟨ZrC,Za2,ZlU,ZeP,ZeV,ZHR,ZRH,Zo6,Tv⟩
def Zpj (s:List Int×Int):RT (Option (BRDT×List Int×Int)):=
 let x1:=(Zd (Zd (Zd (nMap (ZaU s).2).2 3).2 4).2 6).1==0
 let x2:= !x1
 let x3:List Int×Int:=(Zd (Zd (Zd (nMap (ZaU s).2).2 3).2 4).2 6).2
 let x4:=ZgA x3
 let x5:=Zcy x3
 let x6:=x5.2
 let x7:=Zcy x6
 let x8:=x7.2
 let x9:List Int×Int:=(bif x1 then x8.1 else x3.1,bif x1 then x8.2 else x3.2)
 let x10:=Zgz x9 12
 let x11:=ZbU x9 12
 let x12:=x11.1
 let x13:=x11.2
 let x14:=Zd x13 4
 let x15:QT17:=(x14.1,x14.2,(0,[],0,0,0,false,[]),((ZaU s).1,(nMap (ZaU s).2).1,(Zd (nMap (ZaU s).2).2 3).1,bif x1 then x5.1 else 0,bif x1 then x7.1 else 4,(Zd (Zd (nMap (ZaU s).2).2 3).2 4).1==0,[]),Stg.l (newG Zci ZsU (Zqx 0 x12)),())
 let x16:=runF false ZeX (λa=>400) x15
 let x17:(List Int×Int)×BRDT×BRDT×List (Int×Int)×PUnit:=(getO (false,x15) x16).2.2
 let x18:=x17.2.2
 let x19:=x18.2.1
 let x20:=x18.1
 let x21:=x20.2
 let x22:=x21.2
 let x23:=x22.2
 let x24:=x23.2
 .br (!Zph s||(!ZLt (ZaU s).2||(!Zj (nMap (ZaU s).2).2 3||Zj (Zd (nMap (ZaU s).2).2 3).2 4))) (.br (!Zph s||(!ZLt (ZaU s).2||Zj (nMap (ZaU s).2).2 3)) (.br (!Zph s||ZLt (ZaU s).2) (.br (Zph s) (.br (Zj (Zd (Zd (nMap (ZaU s).2).2 3).2 4).2 6) (.br (x2||(!x4||ZgA x6)) (.br (x2||x4) (.br (!x10||smB x12) (.br (x10) (.br (Zj x13 4) (.br (okB x16) (.br (smC x19) (Ls (((x20.1,x21.1,x22.1,x23.1,x24.1,x24.2.1,Cells.normX x19),x17.1))) Ln) Ln) Ln) Ln) Ln) Ln) Ln) Ln) Ln) Ln) Ln) Ln
def ZaG (s:List Int×Int):BRDT×List Int×Int:=getO (Zv9.Df,ZEn.Df) (Zpj s).val
def Zpk (s:List Int×Int):Bool:=okB (Zpj s).val
def ZRU:En:=boxE ZEn ZyL Zv9 (λa=>some (Zpk a.1)) (λa=>ZaG a.1)
theorem ZRR:Za prog 66 ZRU:=
 Zb8 (P:=prog) (n:=63) (k:=8) (l:=[(59,ZtS),(68,Zco),(71,Zzm),(93,Zgk),(119,Zhe),(122,ZRP),(123,Z0j),(124,Zo8)]) (ol:=[(0,Zzn)]) ⟨ZrC,Za2,ZlU,ZeP,ZeV,ZHR,ZRH,Zo6,Tv⟩ Tryz.func66 rfl (by kernel_rfl) Tryz.call66 ⟨ZEu,Tv⟩ (rb:=ZEn) (ts:=ZyL) (rs:=Zv9) (t:=λa=>Zpj a.1) (λa=>by kernel_rfl)
def Zpf (s:List Int×Int):RT (Option (INPT×List Int×Int)):=
 let x1:=decide ((Zd s 64).1<30)||(decide ((Zd s 64).1<36)||(decide ((Zd s 64).1<40)||(!decide ((Zd s 64).1<46)||Zj (Zd s 64).2 256)))
 let x2:= !x1
 let x3:=decide ((Zd s 64).1<30)||(decide ((Zd s 64).1<36)||(decide ((Zd s 64).1<40)||(decide ((Zd s 64).1<46)||(decide ((Zd s 64).1<50)||(decide ((Zd s 64).1<53)||(decide ((Zd s 64).1<55)||((Zd s 64).1==55||(!decide ((Zd s 64).1<60)||ZbV (Zd s 64).2))))))))
 let x4:= !x3
 let x5:= !Zbg (Zac (Zac (Zac (Zac (Zd s 64).2).2).2).2).2
 let x6:List Int×Int:=(Zac (Zac (Zac (Zac (Zac (Zd s 64).2).2).2).2).2).2
 let x7:=Zj x6 256
 let x8:=Zd x6 256
 let x9:=x8.2
 let x10:=decide ((Zd s 64).1<30)||(decide ((Zd s 64).1<36)||(decide ((Zd s 64).1<40)||(decide ((Zd s 64).1<46)||(decide ((Zd s 64).1<50)||(decide ((Zd s 64).1<53)||(decide ((Zd s 64).1<55)||((Zd s 64).1==55||(decide ((Zd s 64).1<60)||(!Zbg (Zd s 64).2||(!Zbg (Zac (Zd s 64).2).2||(!Zbg (Zac (Zac (Zd s 64).2).2).2||(!Zbg (Zac (Zac (Zac (Zd s 64).2).2).2).2||(x5||(!x7||Zj x9 256))))))))))))))
 let x11:= !x10
 let x12:=decide ((Zd s 64).1<30)||(decide ((Zd s 64).1<36)||(decide ((Zd s 64).1<40)||(decide ((Zd s 64).1<46)||(decide ((Zd s 64).1<50)||(decide ((Zd s 64).1<53)||(decide ((Zd s 64).1<55)||((Zd s 64).1==55||(decide ((Zd s 64).1<60)||(!Zbg (Zd s 64).2||(!Zbg (Zac (Zd s 64).2).2||(!Zbg (Zac (Zac (Zd s 64).2).2).2||(!Zbg (Zac (Zac (Zac (Zd s 64).2).2).2).2||(x5||x7)))))))))))))
 let x13:= !x12
 let x14:=decide ((Zd s 64).1<30)||(decide ((Zd s 64).1<36)||(decide ((Zd s 64).1<40)||(decide ((Zd s 64).1<46)||(decide ((Zd s 64).1<50)||(decide ((Zd s 64).1<53)||(decide ((Zd s 64).1<55)||((Zd s 64).1==55||(decide ((Zd s 64).1<60)||(!Zbg (Zd s 64).2||(!Zbg (Zac (Zd s 64).2).2||(!Zbg (Zac (Zac (Zd s 64).2).2).2||(!Zbg (Zac (Zac (Zac (Zd s 64).2).2).2).2||Zbg (Zac (Zac (Zac (Zac (Zd s 64).2).2).2).2).2))))))))))))
 let x15:= !x14
 let x16:=decide ((Zd s 64).1<30)||(decide ((Zd s 64).1<36)||(decide ((Zd s 64).1<40)||(decide ((Zd s 64).1<46)||(decide ((Zd s 64).1<50)||(decide ((Zd s 64).1<53)||(decide ((Zd s 64).1<55)||((Zd s 64).1==55||(decide ((Zd s 64).1<60)||(!Zbg (Zd s 64).2||(!Zbg (Zac (Zd s 64).2).2||(!Zbg (Zac (Zac (Zd s 64).2).2).2||Zbg (Zac (Zac (Zac (Zd s 64).2).2).2).2)))))))))))
 let x17:= !x16
 let x18:=decide ((Zd s 64).1<30)||(decide ((Zd s 64).1<36)||(decide ((Zd s 64).1<40)||(decide ((Zd s 64).1<46)||(decide ((Zd s 64).1<50)||(decide ((Zd s 64).1<53)||(decide ((Zd s 64).1<55)||((Zd s 64).1==55||(decide ((Zd s 64).1<60)||(!Zbg (Zd s 64).2||(!Zbg (Zac (Zd s 64).2).2||Zbg (Zac (Zac (Zd s 64).2).2).2))))))))))
 let x19:= !x18
 let x20:=decide ((Zd s 64).1<30)||(decide ((Zd s 64).1<36)||(decide ((Zd s 64).1<40)||(decide ((Zd s 64).1<46)||(decide ((Zd s 64).1<50)||(decide ((Zd s 64).1<53)||(decide ((Zd s 64).1<55)||((Zd s 64).1==55||(decide ((Zd s 64).1<60)||(!Zbg (Zd s 64).2||Zbg (Zac (Zd s 64).2).2)))))))))
 let x21:=Zd x9 256
 let x22:=x21.2
 .br (Zj s 64) (.br (x2||(x4||(x11||(x13||(x15||(x17||(x19||(!x20||(decide ((Zd s 64).1<30)||(decide ((Zd s 64).1<36)||(decide ((Zd s 64).1<40)||(decide ((Zd s 64).1<46)||(decide ((Zd s 64).1<50)||(decide ((Zd s 64).1<53)||(decide ((Zd s 64).1<55)||((Zd s 64).1==55||(decide ((Zd s 64).1<60)||Zbg (Zd s 64).2))))))))))))))))) (.br (x2||(x4||(x11||(x13||(x15||(x17||(x19||x20))))))) (.br (x2||(x4||(x11||(x13||(x15||(x17||x18)))))) (.br (x2||(x4||(x11||(x13||(x15||x16))))) (.br (x2||(x4||(x11||(x13||x14)))) (.br (x2||(x4||(x11||x12))) (.br (x2||(x4||x10)) (.br (x2||x3) (.br (x1) (Ls (((bif decide ((Zd s 64).1<30) then ZS.1 else !decide ((Zd s 64).1<36)&&bif decide ((Zd s 64).1<40) then ZS.1 else bif decide ((Zd s 64).1<46) then ZS.1 else bif decide ((Zd s 64).1<50) then ZS.1 else bif decide ((Zd s 64).1<53) then ZS.1 else bif decide ((Zd s 64).1<55) then ZS.1 else bif (Zd s 64).1==55 then ZS.1 else bif decide ((Zd s 64).1<60) then ZS.1 else (Zac (Zd s 64).2).1,bif decide ((Zd s 64).1<30) then ZS.2.1 else bif decide ((Zd s 64).1<36) then ZS.2.1 else decide ((Zd s 64).1<40)||bif decide ((Zd s 64).1<46) then ZS.2.1 else bif decide ((Zd s 64).1<50) then ZS.2.1 else bif decide ((Zd s 64).1<53) then ZS.2.1 else bif decide ((Zd s 64).1<55) then ZS.2.1 else bif (Zd s 64).1==55 then ZS.2.1 else bif decide ((Zd s 64).1<60) then ZS.2.1 else (Zac (Zac (Zd s 64).2).2).1,bif decide ((Zd s 64).1<30) then ZS.2.2.1 else bif decide ((Zd s 64).1<36) then ZS.2.2.1 else bif decide ((Zd s 64).1<40) then ZS.2.2.1 else bif decide ((Zd s 64).1<46) then ZS.2.2.1 else bif decide ((Zd s 64).1<50) then ZS.2.2.1 else bif decide ((Zd s 64).1<53) then ZS.2.2.1 else bif decide ((Zd s 64).1<55) then ZS.2.2.1 else (Zd s 64).1==55||decide ((Zd s 64).1<60)&&ZS.2.2.1,bif decide ((Zd s 64).1<30) then ZS.2.2.2.1 else bif decide ((Zd s 64).1<36) then ZS.2.2.2.1 else bif decide ((Zd s 64).1<40) then ZS.2.2.2.1 else bif decide ((Zd s 64).1<46) then ZS.2.2.2.1 else bif decide ((Zd s 64).1<50) then ZS.2.2.2.1 else bif decide ((Zd s 64).1<53) then (Zd s 64).1==51 else bif decide ((Zd s 64).1<55) then ZS.2.2.2.1 else bif (Zd s 64).1==55 then ZS.2.2.2.1 else bif decide ((Zd s 64).1<60) then ZS.2.2.2.1 else (Zac (Zac (Zac (Zd s 64).2).2).2).1,bif decide ((Zd s 64).1<30) then ZS.2.2.2.2.1 else bif decide ((Zd s 64).1<36) then ZS.2.2.2.2.1 else bif decide ((Zd s 64).1<40) then ZS.2.2.2.2.1 else bif decide ((Zd s 64).1<46) then ZS.2.2.2.2.1 else bif decide ((Zd s 64).1<50) then ZS.2.2.2.2.1 else bif decide ((Zd s 64).1<53) then ZS.2.2.2.2.1 else decide ((Zd s 64).1<55)||bif (Zd s 64).1==55 then ZS.2.2.2.2.1 else decide ((Zd s 64).1<60)&&ZS.2.2.2.2.1,bif decide ((Zd s 64).1<30) then ZS.2.2.2.2.2.1 else bif decide ((Zd s 64).1<36) then ZS.2.2.2.2.2.1 else bif decide ((Zd s 64).1<40) then ZS.2.2.2.2.2.1 else bif decide ((Zd s 64).1<46) then ZS.2.2.2.2.2.1 else bif decide ((Zd s 64).1<50) then Int.tmod (Zd s 64).1 2==0 else bif decide ((Zd s 64).1<53) then ZS.2.2.2.2.2.1 else bif decide ((Zd s 64).1<55) then ZS.2.2.2.2.2.1 else bif (Zd s 64).1==55 then ZS.2.2.2.2.2.1 else bif decide ((Zd s 64).1<60) then ZS.2.2.2.2.2.1 else (Zac (Zac (Zac (Zac (Zd s 64).2).2).2).2).1,bif decide ((Zd s 64).1<30) then ZS.2.2.2.2.2.2.1 else bif decide ((Zd s 64).1<36) then ZS.2.2.2.2.2.2.1 else bif decide ((Zd s 64).1<40) then ZS.2.2.2.2.2.2.1 else bif decide ((Zd s 64).1<46) then ZS.2.2.2.2.2.2.1 else bif decide ((Zd s 64).1<50) then Int.tmod (Zd s 64).1 2==1 else bif decide ((Zd s 64).1<53) then ZS.2.2.2.2.2.2.1 else bif decide ((Zd s 64).1<55) then ZS.2.2.2.2.2.2.1 else bif (Zd s 64).1==55 then ZS.2.2.2.2.2.2.1 else bif decide ((Zd s 64).1<60) then ZS.2.2.2.2.2.2.1 else (Zac (Zac (Zac (Zac (Zac (Zd s 64).2).2).2).2).2).1,bif decide ((Zd s 64).1<30) then ZS.2.2.2.2.2.2.2.1 else bif decide ((Zd s 64).1<36) then ZS.2.2.2.2.2.2.2.1 else bif decide ((Zd s 64).1<40) then ZS.2.2.2.2.2.2.2.1 else bif decide ((Zd s 64).1<46) then ZS.2.2.2.2.2.2.2.1 else bif decide ((Zd s 64).1<50) then ZS.2.2.2.2.2.2.2.1 else decide ((Zd s 64).1<53)||bif decide ((Zd s 64).1<55) then ZS.2.2.2.2.2.2.2.1 else bif (Zd s 64).1==55 then ZS.2.2.2.2.2.2.2.1 else decide ((Zd s 64).1<60)&&ZS.2.2.2.2.2.2.2.1,bif decide ((Zd s 64).1<30) then ZS.2.2.2.2.2.2.2.2.1 else bif decide ((Zd s 64).1<36) then ZS.2.2.2.2.2.2.2.2.1 else bif decide ((Zd s 64).1<40) then ZS.2.2.2.2.2.2.2.2.1 else bif decide ((Zd s 64).1<46) then u8.wrap (Zd (Zd s 64).2 256).1 else bif decide ((Zd s 64).1<50) then ZS.2.2.2.2.2.2.2.2.1 else bif decide ((Zd s 64).1<53) then ZS.2.2.2.2.2.2.2.2.1 else bif decide ((Zd s 64).1<55) then ZS.2.2.2.2.2.2.2.2.1 else bif (Zd s 64).1==55 then ZS.2.2.2.2.2.2.2.2.1 else bif decide ((Zd s 64).1<60) then 1 else u8.wrap x8.1,bif decide ((Zd s 64).1<30) then u8.wrap (Zd s 64).1 else bif decide ((Zd s 64).1<36) then ZS.2.2.2.2.2.2.2.2.2 else bif decide ((Zd s 64).1<40) then ZS.2.2.2.2.2.2.2.2.2 else bif decide ((Zd s 64).1<46) then ZS.2.2.2.2.2.2.2.2.2 else bif decide ((Zd s 64).1<50) then ZS.2.2.2.2.2.2.2.2.2 else bif decide ((Zd s 64).1<53) then ZS.2.2.2.2.2.2.2.2.2 else bif decide ((Zd s 64).1<55) then ZS.2.2.2.2.2.2.2.2.2 else bif (Zd s 64).1==55 then ZS.2.2.2.2.2.2.2.2.2 else bif decide ((Zd s 64).1<60) then (Zag (Zd s 64).2).1 else u8.wrap x21.1),bif decide ((Zd s 64).1<30) then (Zd s 64).2.1 else bif decide ((Zd s 64).1<36) then (Zd s 64).2.1 else bif decide ((Zd s 64).1<40) then (Zd s 64).2.1 else bif decide ((Zd s 64).1<46) then (Zd (Zd s 64).2 256).2.1 else bif decide ((Zd s 64).1<50) then (Zd s 64).2.1 else bif decide ((Zd s 64).1<53) then (Zd s 64).2.1 else bif decide ((Zd s 64).1<55) then (Zd s 64).2.1 else bif (Zd s 64).1==55 then (Zd s 64).2.1 else bif decide ((Zd s 64).1<60) then (Zag (Zd s 64).2).2.1 else x22.1,bif decide ((Zd s 64).1<30) then (Zd s 64).2.2 else bif decide ((Zd s 64).1<36) then (Zd s 64).2.2 else bif decide ((Zd s 64).1<40) then (Zd s 64).2.2 else bif decide ((Zd s 64).1<46) then (Zd (Zd s 64).2 256).2.2 else bif decide ((Zd s 64).1<50) then (Zd s 64).2.2 else bif decide ((Zd s 64).1<53) then (Zd s 64).2.2 else bif decide ((Zd s 64).1<55) then (Zd s 64).2.2 else bif (Zd s 64).1==55 then (Zd s 64).2.2 else bif decide ((Zd s 64).1<60) then (Zag (Zd s 64).2).2.2 else x22.2))) Ln) Ln) Ln) Ln) Ln) Ln) Ln) Ln) Ln) Ln
def Zdn (s:List Int×Int):INPT×List Int×Int:=getO (ZMy.Df,ZEn.Df) (Zpf s).val
def Zh4 (s:List Int×Int):Bool:=okB (Zpf s).val
def Zpg:En:=boxE ZEn ZyL ZMy (λa=>some (Zh4 a.1)) (λa=>Zdn a.1)
theorem Zpe:Za prog 62 Zpg:=
 Zb8 (P:=prog) (n:=5036105318265824215071) (k:=8) (l:=[(68,Zco),(69,ZXM),(118,ZFj),(119,Zhe)]) (ol:=[]) ⟨Za2,ZVu,Zsy,ZeV,Tv⟩ Tryz.func62 rfl (by kernel_rfl) Tryz.call62 trivial (rb:=ZEn) (ts:=ZyL) (rs:=ZMy) (t:=λa=>Zpf a.1) (λa=>by kernel_rfl)
def ZLx:LS:={n:=39,Sl:=[(0,.fix (A.loc 0 0)),(5,.tip 0),(6,.code (So Kc)),(7,.fix (A.loc 1 0)),(8,.code (So Kc))],Bx:=[[.many (R.Pq (R.sl Kc) Kc)],[.many Zdd]],Sg:=[⟨Zdd,122,true⟩]}
def ZdH (a:QT16):RT (Option (Go1 (QT16))):=
 let x1:List INPT:=a.2.2.2.2.1++[a.2.2.2.1]
 .br (decide (a.2.1>=0)&&decide (iN (Le a.2.2.2.2.1)<a.1)) (.br (Nat.ble (Le x1) most) (Ls (Go1.cont (a.1,i64.wrap (a.2.1-1),a.2.2.1,a.2.2.2.1,x1,PUnit.unit))) Ln) (Ls (Go1.brk (a.1,a.2.1,a.2.2.1,a.2.2.2.1,a.2.2.2.2.1,PUnit.unit)))
def Zhf:Ora:=ZaB false ZLx ZdH (λa=>400)
theorem Zk2:Zal (envX prog [(62,Zpg),(68,Zco)] [] 511 8) (.block 2 (.loop (ZQ Tryz.f125.body 2))) Zhf:=
 loopP ⟨Zpe,Za2,Tv⟩
def ZLw:LS:={n:=39,Sl:=[(0,.fix (A.loc 0 0)),(5,.tip 0),(6,.code (So Kc))],Bx:=[[.many (R.Pq (R.sl Kc) Kc)]],Sg:=[⟨Zdd,122,true⟩]}
def ZeW (a:QT23):RT (Option (Go1 (QT23))):=
 let x1:= !Zj (Zdn a.2.1).2 4||Zj (Zd (Zdn a.2.1).2 4).2 5
 let x2:= !x1
 let x3:QT16:=(a.1,i64.wrap ((Zd (Zdn a.2.1).2 4).1*(Zd (Zd (Zdn a.2.1).2 4).2 5).1),(Zd (Zd (Zdn a.2.1).2 4).2 5).2,(Zdn a.2.1).1,a.2.2.1,())
 let x4:=runF false ZdH (λa_1=>400) x3
 let x5:QT16:=(getO (false,x3) x4).2
 let x6:=x5.2.2
 .br (decide (iN (Le a.2.2.1)<a.1)) (.br (!Zh4 a.2.1||(x2||(!Zj (Zdn a.2.1).2 4||okB x4))) (.br (!Zh4 a.2.1||(x2||Zj (Zdn a.2.1).2 4)) (.br (!Zh4 a.2.1||x1) (.br (Zh4 a.2.1) (Ls (Go1.cont (x5.1,x6.1,x6.2.2.1,PUnit.unit))) Ln) Ln) Ln) Ln) (Ls (Go1.brk (a.1,a.2.1,a.2.2.1,PUnit.unit)))
def Zr0:Ora:=ZaB false ZLw ZeW (λa=>400)
theorem Zzk:Zal (envX prog [(62,Zpg),(68,Zco)] [(2,Zhf)] 511 8) (.block 0 (.loop (ZQ Tryz.f125.body 0))) Zr0:=
 ZgB (Zbv (l:=[(62,Zpg),(68,Zco)]) ⟨Zpe,Za2,Tv⟩ [(2,Zhf)] 511 8) (Zfq (by kernel_rfl) (by kernel_rfl) ⟨Zk2,Tv⟩) (λa=>by kernel_rfl)
def Zje (s:List Int×Int) (n:Int):RT (Option (List INPT×List Int×Int)):=
 let x1:QT23:=((Zd s (i64.wrap (n+1))).1,(Zd s (i64.wrap (n+1))).2,[],())
 let x2:=runF false ZeW (λa=>400) x1
 let x3:(List Int×Int)×List INPT×PUnit:=(getO (false,x1) x2).2.2
 .br (Zj s (i64.wrap (n+1))) (.br (okB x2) (Ls ((x3.2.1,x3.1))) Ln) Ln
def Z8 (s:List Int×Int) (n:Int):List INPT×List Int×Int:=getO (Zmm.Df,ZEn.Df) (Zje s n).val
def Zjf (s:List Int×Int) (n:Int):Bool:=okB (Zje s n).val
def ZHO:En:=boxE ZEn ZyV Zmm (λa=>some (Zjf a.1 a.2)) (λa=>Z8 a.1 a.2)
theorem ZLu:Za prog 125 ZHO:=
 Zb8 (P:=prog) (n:=511) (k:=8) (l:=[(62,Zpg),(68,Zco)]) (ol:=[(2,Zhf),(0,Zr0)]) ⟨Zpe,Za2,Tv⟩ Tryz.func125 rfl (by kernel_rfl) Tryz.call125 ⟨Zk2,Zzk,Tv⟩ (rb:=ZEn) (ts:=ZyV) (rs:=Zmm) (t:=λa=>Zje a.1 a.2) (λa=>by kernel_rfl)
variable {s:List Int×Int} {k:Int}
theorem NB.up {j:Int} (h:NB s k) (hj:k<=j):NB s j:=⟨h.1,by have:=h.2;omega⟩
theorem Zjg (h:NB s k) (hk:k<=1000000):Zbg s=true/\NB (Zac s).2 (k+1):=by obtain⟨c1,b,_⟩:=ZB h hk 2 (by decide) (by decide);simp only[Zbg,Zac,ZHQ,RT.val,c1,Ya,okB,getO];exact⟨trivial,b⟩
theorem Zan {a b:Nat} (h:a<=b):Nat.ble a b=true:=by rw[YP];exact h
theorem ZEi (h:NB s k) (hk:k<=500000) (n:Nat) (hn:n<=100):
  Zc8 s (n:Int)=true/\NB (Zbc s (n:Int)).2 (k+1+5*n)/\(Zbc s (n:Int)).1.length<=n:=by
 have hms:=mst;have w0:IntKind.wrap .i64 ((n:Int)+1)=(n:Int)+1:=wrap_i64 _ (by omega) (by omega);obtain⟨c1,b1,d0,d1⟩:=ZB h (by omega) ((n:Int)+1) (by omega) (by omega);obtain⟨L,N,hs1⟩:∃L N,(L,N)=(Zd s ((n:Int)+1)).2:=⟨_,_,rfl⟩;obtain⟨q,hq⟩:∃q:Nat,(Zd s ((n:Int)+1)).1=(q:Int):=⟨_,(Yan d0).symm⟩;rw[<-hs1] at b1;obtain⟨r,hr,h1,L',N',o,hs',ho,hR⟩:=ZC (fl:=false) (t:=Zd7) (fuel:=λa=>400)
  (λa=>∃(i:Nat) (L:List Int) (N:Int) (o:List Z6),i<=q/\NB (L,N) (k+1+5*((q-i:Nat):Int))/\o.length<=q-i/\a=((i:Int),(L,N),o,()))
  (λa=>Int.toNat a.1) (λr=>r.1=false/\∃(L:List Int) (N:Int) (o:List Z6),NB (L,N) (k+1+5*(q:Int))/\o.length<=q/\r.2=((0:Int),(L,N),o,()))
  (by
   rintro a ⟨i,L,N,o,hi,hs',ho,rfl⟩;cases i with
   |zero=>
    right;left;exact⟨_,by simp only[Zd7,RT.val];rfl,rfl,L,N,o,by simpa using hs',by omega,rfl⟩
   |succ i=>
    left;have d:decide (((i+1:Nat):Int)>0)=true:=Yz (by omega);obtain⟨kw,bw,_⟩:=ZVt hs' (by omega);obtain⟨k1,b1,e0,e1⟩:=ZB bw (by omega) 6 (by decide) (by decide);obtain⟨k2,b2,_⟩:=ZB b1 (by omega) 3 (by decide) (by decide);obtain⟨k3,b3,f0,f1⟩:=ZB b2 (by omega) 5 (by decide) (by decide);have r1:Ze (Zd (Zbz (L,N)).2 6).1 6=true:=ZF.2 ⟨e0,e1⟩;have r2:Ze (Zd (Zd (Zd (Zbz (L,N)).2 6).2 3).2 5).1 5=true:=ZF.2 ⟨f0,f1⟩;have hb:∀x:Z6,Nat.ble (o++[x]).length most=true:=λx=>Zan (by simp;omega)
    have w:IntKind.wrap .i64 (((i+1:Nat):Int)-1)=(i:Int):=by rw[wrap_i64 _ (by omega) (by omega)];omega
    obtain⟨o',ho'⟩:∃o':List Z6,o'=o++[((Zbz (L,N)).1,u16.wrap (if 65535<i64.wrap (i64.wrap (Zbz (L,N)).1+R.get (R.int i64) [0,3,15,255,4095,65535] (Zd (Zbz (L,N)).2 6).1) then 65535 else i64.wrap (i64.wrap (Zbz (L,N)).1+R.get (R.int i64) [0,3,15,255,4095,65535] (Zd (Zbz (L,N)).2 6).1)),decide ((Zd (Zd (Zbz (L,N)).2 6).2 3).1>0),R.get (R.int i64) [0,0,1,2,5] (Zd (Zd (Zd (Zbz (L,N)).2 6).2 3).2 5).1)]:=⟨_,rfl⟩;refine⟨((i:Int),((Zd (Zd (Zd (Zbz (L,N)).2 6).2 3).2 5).2.1,(Zd (Zd (Zd (Zbz (L,N)).2 6).2 3).2 5).2.2),o',()),?_,⟨i,_,_,o',by omega,b3.up (by omega),by rw[ho'];simp;omega,rfl⟩,by simp only;omega⟩
    simp only[Zd7,RT.val,List.length_cons,List.length_nil,Nat.reduceAdd,d,kw,k1,k2,k3,r1,r2,hb,w,ho',Ya,Yg,Yj,Yf,YF])
  ((q:Int),(L,N),[],()) ⟨q,L,N,[],Ye _,by simpa using b1,by simp,rfl⟩ (by simp only;omega)
 obtain⟨r1,r2⟩:=r;simp only at h1 hR;subst h1 hR;have hv:(Zgx s (n:Int)).val=some (o,L',N'):=by simp only[Zgx,RT.val,w0,c1,hq,<-hs1,hr,okB,getO,Ya]
 simp only[Zc8,Zbc,hv,okB,getO];exact⟨trivial,hs'.up (by omega),by omega⟩
theorem Z1k {l:List Cell} (h:l.length<=1000):smC l=true:=Zan (by have:=mst;omega)
theorem ZWF {l:List Int} (h:l.length<=1000):smB l=true:=Zan (by have:=mst;omega)
theorem ZRI (h:NB s k) (hk:k<=400000):ZLt s=true/\NB (nMap s).2 (k+20)/\(nMap s).1.length<=3:=by
 obtain⟨c1,b1,l1⟩:=ZEi h (by omega) 2 (by omega);have c1:Zc8 s 2=true:=c1;have b1:NB (Zbc s 2).2 (k+1+5*((2:Nat):Int)):=b1;have l1:(Zbc s 2).1.length<=2:=l1;obtain⟨c2,b2,_⟩:=ZB b1 (by omega) 3 (by decide) (by decide);have hs:∀x:Z6,Nat.ble ((Zbc s 2).1++[x]).length most=true:=λx=>Zan (by have:=mst;simp;omega)
 have hg:∀l:List Z6,Stg.l (newG ZeT ZeU l)=l:=λ_=>rfl
 have hv:(ZRJ s).val=some ((Zbc s 2).1++[(0,65535,true,IntKind.wrap .i64 (Int.tdiv (Zd (Zbc s 2).2 3).1 2))],(Zd (Zbc s 2).2 3).2):=by simp only[ZRJ,RT.val,hg,c1,c2,hs,Yg,Yj,Yf,Ya]
 refine⟨by simp only[ZLt,hv];rfl,?_,?_⟩
 ·simp only[nMap,hv,getO];exact b2.up (by omega)
 ·simp only[nMap,hv,getO];simp;omega
theorem ZEk (h:NB s k) (hk:k<=300000) (n:Nat) (hn:n<=20):
  Zgz s (n:Int)=true/\NB (ZbU s (n:Int)).2 (k+1+10*n)/\(ZbU s (n:Int)).1.length<=12*n:=by
 have hms:=mst;have w0:IntKind.wrap .i64 ((n:Int)+1)=(n:Int)+1:=wrap_i64 _ (by omega) (by omega);obtain⟨c1,b1,d0,d1⟩:=ZB h (by omega) ((n:Int)+1) (by omega) (by omega);obtain⟨s1,hs1⟩:∃s1,s1=(Zd s ((n:Int)+1)).2:=⟨_,rfl⟩;obtain⟨q,hq⟩:∃q:Nat,(Zd s ((n:Int)+1)).1=(q:Int):=⟨_,(Yan d0).symm⟩;rw[<-hs1] at b1;obtain⟨r,hr,h1,s',o,hs',ho,hR⟩:=ZC (fl:=false) (t:=ZcP) (fuel:=λa=>400)
  (λa=>∃(i:Nat) (s':List Int×Int) (o:List Int),i<=q/\NB s' (k+1+10*((q-i:Nat):Int))/\o.length<=12*(q-i)/\a=((i:Int),s',o,()))
  (λa=>Int.toNat a.1) (λr=>r.1=false/\∃(s':List Int×Int) (o:List Int),NB s' (k+1+10*(q:Int))/\o.length<=12*q/\r.2=((0:Int),s',o,()))
  (by
   rintro a ⟨i,s',o,hi,hs',ho,rfl⟩;cases i with
   |zero=>
    right;left;exact⟨_,by simp only[ZcP,RT.val];rfl,rfl,s',o,by simpa using hs',by omega,rfl⟩
   |succ i=>
    left;have d:decide (((i+1:Nat):Int)>0)=true:=Yz (by omega);have w:IntKind.wrap .i64 (((i+1:Nat):Int)-1)=(i:Int):=by rw[wrap_i64 _ (by omega) (by omega)];omega
    obtain⟨k0,b0,_⟩:=ZB hs' (by omega) 8 (by decide) (by decide);obtain⟨k1,b1,e0,e1⟩:=ZB b0 (by omega) 4 (by decide) (by decide);obtain⟨k2,b2,_⟩:=ZB b1 (by omega) 256 (by decide) (by decide);obtain⟨k3,b3,f0,f1⟩:=ZB b2 (by omega) 4 (by decide) (by decide);obtain⟨k4,b4,_⟩:=ZlV b0 (by omega);obtain⟨k5,b5,_⟩:=ZB b4 (by omega) 8 (by decide) (by decide);obtain⟨k6,b6,_⟩:=ZB b0 (by omega) 16 (by decide) (by decide);obtain⟨k7,b7,_⟩:=ZlV b6 (by omega);obtain⟨k8,b8,_⟩:=Zkp b0 (by omega);obtain⟨k9,b9,_⟩:=ZB b8 (by omega) 64 (by decide) (by decide);obtain⟨ka,ba,g0,g1⟩:=ZB b9 (by omega) 4 (by decide) (by decide);have r1:Ze (Zd (Zd s' 8).2 4).1 4=true:=ZF.2 ⟨e0,e1⟩;have r2:Ze (Zd (Zd (Zd (Zd s' 8).2 4).2 256).2 4).1 4=true:=ZF.2 ⟨f0,f1⟩;have r3:Ze (Zd (Zd (Zag (Zd s' 8).2).2 64).2 4).1 4=true:=ZF.2 ⟨g0,g1⟩;have hb:∀x:List Int,x.length<=12->Nat.ble (o++x).length most=true:=λx hx=>Zan (by rw[Yd];omega)
    have q1:∀a b c:Int,Nat.ble (o++[a,b,c]).length most=true:=λa b c=>hb _ (by simp)
    have q2:∀a b c d:Int,Nat.ble (o++[a,b,c,d]).length most=true:=λa b c d=>hb _ (by simp)
    have q3:∀a:Int,Nat.ble (o++[a]).length most=true:=λa=>hb _ (by simp)
    have q4:∀a b c d e f g h i j k l:Int,Nat.ble (o++[a,b,c,d,e,f,g,h,i,j,k,l]).length most=true:=λa b c d e f g h i j k l=>hb _ (by simp)
    have hv:∃s2 x,x.length<=12/\NB s2 (k+1+10*((q-i:Nat):Int))/\(ZcP (((i+1:Nat):Int),s',o,())).val=some (Go1.cont ((i:Int),s2,o++x,())):=by
     simp only[ZcP,RT.val,List.length_cons,List.length_nil,Nat.reduceAdd,d,w,k0,k1,k2,k3,k4,k5,k6,k7,k8,k9,ka,r1,r2,r3,q1,q2,q3,q4,Ya,Yg,Yj,Yf,YF];cases (Zd s' 8).1==0
     ·cases (Zd s' 8).1==1
      ·cases (Zd s' 8).1==2
       ·cases (Zd s' 8).1==3
        ·exact⟨_,[(Zag (Zd s' 8).2).1,IntKind.wrap .u8 (Zd (Zag (Zd s' 8).2).2 64).1,R.get (R.int .u8) [0,0,1,255] (Zd (Zd (Zag (Zd s' 8).2).2 64).2 4).1],by simp,ba.up (by omega),rfl⟩
        ·exact⟨_,[62,IntKind.wrap .u8 (IntKind.wrap .i64 (16+(Zd (Zd s' 8).2 16).1)),211,0,62,(Zcy (Zd (Zd s' 8).2 16).2).1,211,1,62,0,211,1],by simp,b7.up (by omega),rfl⟩
       ·exact⟨_,[251],by simp,b0.up (by omega),rfl⟩
      ·exact⟨_,[62,(Zcy (Zd s' 8).2).1,211,IntKind.wrap .u8 (Zd (Zcy (Zd s' 8).2).2 8).1],by simp,b5.up (by omega),rfl⟩
     ·exact⟨_,[R.get (R.int .u8) [33,49,1,17] (Zd (Zd s' 8).2 4).1,IntKind.wrap .u8 (Zd (Zd (Zd s' 8).2 4).2 256).1,R.get (R.int .u8) [0,0,1,255] (Zd (Zd (Zd (Zd s' 8).2 4).2 256).2 4).1],by simp,b3.up (by omega),rfl⟩
    obtain⟨s2,x,hx,hs2,hv⟩:=hv
    exact⟨_,hv,⟨i,s2,o++x,by omega,hs2,by rw[Yd];omega,rfl⟩,by simp only;omega⟩)
  ((q:Int),s1,[],()) ⟨q,s1,[],Ye _,by simpa using b1,by simp,rfl⟩ (by simp only;omega)
 obtain⟨r1,r2⟩:=r;simp only at h1 hR;subst h1 hR;have hv:(Zgy s (n:Int)).val=some (o,s'):=by simp only[Zgy,RT.val,w0,c1,hq,<-hs1,hr,okB,getO,Ya]
 simp only[Zgz,ZbU,hv,okB,getO];exact⟨trivial,hs'.up (by omega),by omega⟩
theorem ZzE (t:Int) (b:List Int):(Zqx t b).length<=b.length:=by have:=Zd4 (ZpB t b b.length);rw[ZpA] at this;exact this
theorem ZRM (h:NB s k) (hk:k<=300000):Zh4 s=true/\NB (Zdn s).2 (k+20):=by
 obtain⟨c1,b1,_⟩:=ZB h (by omega) 64 (by decide) (by decide);obtain⟨c2,b2,_⟩:=ZB b1 (by omega) 256 (by decide) (by decide);obtain⟨c3,b3,_⟩:=Zkp b1 (by omega);obtain⟨f1,g1⟩:=Zjg b1 (by omega);obtain⟨f2,g2⟩:=Zjg g1 (by omega);obtain⟨f3,g3⟩:=Zjg g2 (by omega);obtain⟨f4,g4⟩:=Zjg g3 (by omega);obtain⟨f5,g5⟩:=Zjg g4 (by omega);obtain⟨c4,b4,_⟩:=ZB g5 (by omega) 256 (by decide) (by decide);obtain⟨c5,b5,_⟩:=ZB b4 (by omega) 256 (by decide) (by decide);have hv:∃c s',(Zpf s).val=some (c,s')/\NB s' (k+20):=by
  simp only[Zpf,RT.val,c1,c2,c3,c4,c5,f1,f2,f3,f4,f5,Ya,Yg,Yj,Yf,YF];cases decide ((Zd s 64).1<30) with
  |true=>exact⟨_,_,rfl,b1.up (by omega)⟩
  |false=>
  cases decide ((Zd s 64).1<36) with
  |true=>exact⟨_,_,rfl,b1.up (by omega)⟩
  |false=>
  cases decide ((Zd s 64).1<40) with
  |true=>exact⟨_,_,rfl,b1.up (by omega)⟩
  |false=>
  cases decide ((Zd s 64).1<46) with
  |true=>exact⟨_,_,rfl,b2.up (by omega)⟩
  |false=>
  cases decide ((Zd s 64).1<50) with
  |true=>exact⟨_,_,rfl,b1.up (by omega)⟩
  |false=>
  cases decide ((Zd s 64).1<53) with
  |true=>exact⟨_,_,rfl,b1.up (by omega)⟩
  |false=>
  cases decide ((Zd s 64).1<55) with
  |true=>exact⟨_,_,rfl,b1.up (by omega)⟩
  |false=>
  cases ((Zd s 64).1==55) with
  |true=>exact⟨_,_,rfl,b1.up (by omega)⟩
  |false=>
  cases decide ((Zd s 64).1<60) with
  |true=>exact⟨_,_,rfl,b3.up (by omega)⟩
  |false=>exact⟨_,_,rfl,b5.up (by omega)⟩
 obtain⟨c,s',hv,h1⟩:=hv;simp only[Zh4,Zdn,hv,okB,getO];exact⟨trivial,h1⟩
theorem Z0A (s:List Int×Int) (z:Int) (c:INPT) (kk:Nat) (hk:kk<300) (o:List INPT) (size:Nat) (ho:o.length<=size) (hz:size<=300):
  ∃k2 o2,runF false ZdH (λ_=>400) ((size:Int),(kk:Int),s,c,o,())=some (false,(size:Int),k2,s,c,o2,())/\o2.length<=size/\o.length<=o2.length/\(o.length<size->o.length<o2.length):=by
 have hms:=mst;obtain⟨r,hr,h1,k2,o2,e1,e2,e3,e4⟩:=ZC (fl:=false) (t:=ZdH) (fuel:=λ_=>400)
  (λa=>∃(j:Nat) (o2:List INPT),j<=kk+1/\o2.length<=size/\o.length<=o2.length/\(j=kk+1\/o.length<o2.length)/\a=((size:Int),(j:Int)-1,s,c,o2,()))
  (λa=>Int.toNat (a.2.1+1)) (λr=>r.1=false/\∃k2 o2,r.2=((size:Int),k2,s,c,o2,())/\o2.length<=size/\o.length<=o2.length/\(o.length<size->o.length<o2.length))
  (by
   rintro a ⟨j,o2,hj,h2,h3,h4,rfl⟩;have w:∀j:Nat,j<=1000->IntKind.wrap .i64 (((j:Nat):Int)-1-1)=(j:Int)-1-1:=λj hj=>wrap_i64 _ (by omega) (by omega)
   by_cases hc:1<=j/\o2.length<size
   ·left;have d1:decide (((j:Nat):Int)-1>=0)=true:=Yz (by omega);have d2:decide (iN o2.length<(size:Int))=true:=Yz (by simp only[iN,Le];omega);have hb:Nat.ble (o2++[c]).length most=true:=Zan (by simp;omega);refine⟨((size:Int),(j:Int)-1-1,s,c,o2++[c],()),?_,⟨j-1,o2++[c],by omega,by simp;omega,by simp;omega,by right;simp;omega,?_⟩,by simp only;omega⟩
    ·simp only[ZdH,RT.val,d1,d2,hb,YV,Ya,w j (by omega)]
    ·have:((j:Nat):Int)-1=((j-1:Nat):Int):=by omega
     rw[this]
   ·right;left;have d:(decide (((j:Nat):Int)-1>=0)&&decide (iN o2.length<(size:Int)))=false:=by simp only[iN,Le,Yaj,Yab];omega
    exact⟨((size:Int),(j:Int)-1,s,c,o2,()),by simp only[ZdH,RT.val,d,Yc],rfl,_,o2,rfl,h2,h3,λh=>by
     rcases h4 with h4|h4
     ·omega
     ·exact h4⟩)
  ((size:Int),(kk:Int),s,c,o,()) ⟨kk+1,o,Ye _,ho,Ye _,.inl rfl,by
   have:(kk:Int)=((kk+1:Nat):Int)-1:=by omega
   rw[<-this]⟩ (by simp only;omega)
 obtain⟨r1,r2⟩:=r;simp only at h1 e1;subst h1 e1;exact⟨k2,o2,hr,e2,e3,e4⟩
theorem ZLv (h:NB s k) (hk:k<=100000) (n:Nat) (hn:n<=250):
  Zjf s (n:Int)=true/\NB (Z8 s (n:Int)).2 (k+1+30*n)/\(Z8 s (n:Int)).1.length<=n:=by
 have hms:=mst;have w0:IntKind.wrap .i64 ((n:Int)+1)=(n:Int)+1:=wrap_i64 _ (by omega) (by omega);obtain⟨c1,b1,d0,d1⟩:=ZB h (by omega) ((n:Int)+1) (by omega) (by omega);obtain⟨s1,hs1⟩:∃s1,s1=(Zd s ((n:Int)+1)).2:=⟨_,rfl⟩;obtain⟨q,hq⟩:∃q:Nat,(Zd s ((n:Int)+1)).1=(q:Int):=⟨_,(Yan d0).symm⟩;rw[<-hs1] at b1;obtain⟨r,hr,h1,s',o,hs',ho,hR⟩:=ZC (fl:=false) (t:=ZeW) (fuel:=λa=>400)
  (λa=>∃(s':List Int×Int) (o:List INPT),NB s' (k+1+30*(o.length:Int))/\o.length<=q/\a=((q:Int),s',o,()))
  (λa=>Int.toNat a.1-a.2.2.1.length) (λr=>r.1=false/\∃(s':List Int×Int) (o:List INPT),NB s' (k+1+30*(q:Int))/\o.length<=q/\r.2=((q:Int),s',o,()))
  (by
   rintro a ⟨s',o,hs',ho,rfl⟩;by_cases hc:o.length<q
   ·left;have d:decide (iN o.length<(q:Int))=true:=Yz (by simp only[iN,Le];omega);obtain⟨i1,g1⟩:=ZRM hs' (by omega);obtain⟨i2,g2,m0,m1⟩:=ZB g1 (by omega) 4 (by decide) (by decide);obtain⟨i3,g3,m2,m3⟩:=ZB g2 (by omega) 5 (by decide) (by decide);obtain⟨x,hx⟩:∃x:Nat,(Zd (Zdn s').2 4).1=(x:Int):=⟨_,(Yan m0).symm⟩;obtain⟨y,hy⟩:∃y:Nat,(Zd (Zd (Zdn s').2 4).2 5).1=(y:Int):=⟨_,(Yan m2).symm⟩;have hxy:x*y<=3*4:=Nat.mul_le_mul (by omega) (by omega);have w:IntKind.wrap .i64 ((x:Int)*(y:Int))=((x*y:Nat):Int):=by rw[show (x:Int)*(y:Int)=((x*y:Nat):Int) by simp,wrap_i64 _ (by omega) (by omega)]
    obtain⟨k2,o2,hr,e2,e3,e4⟩:=Z0A (Zd (Zd (Zdn s').2 4).2 5).2 0 (Zdn s').1 (x*y) (by omega) o q ho (by omega);have e5:=e4 hc;refine⟨((q:Int),(Zd (Zd (Zdn s').2 4).2 5).2,o2,()),?_,⟨_,o2,g3.up (by omega),e2,rfl⟩,by simp only;omega⟩;simp only[ZeW,RT.val,d,i1,i2,i3,hx,hy,w,hr,okB,getO,Ya,Yg,Yj,Yf,YF]
   ·right;left;have d:decide (iN o.length<(q:Int))=false:=Y0 (by simp only[iN,Le];omega)
    exact⟨_,by simp only[ZeW,RT.val,d,Yc],rfl,s',o,hs'.up (by omega),ho,rfl⟩)
  ((q:Int),s1,[],()) ⟨s1,[],by simpa using b1,by simp,rfl⟩ (by simp only[List.length_nil];omega)
 obtain⟨r1,r2⟩:=r;simp only at h1 hR;subst h1 hR;have hv:(Zje s (n:Int)).val=some (o,s'):=by simp only[Zje,RT.val,w0,c1,hq,<-hs1,hr,okB,getO,Ya]
 simp only[Zjf,Z8,hv,okB,getO];exact⟨trivial,hs'.up (by omega),by omega⟩
theorem ZRS (h:NB s k) (hk:k<=10000):
  Zpk s=true/\NB (ZaG s).2 (k+300)/\(∃s1,NB s1 (k+1)/\(ZaG s).1.2.1=(nMap s1).1)/\((ZaG s).1.1=1\/(ZaG s).1.1=2)/\
   (0<=(ZaG s).1.2.2.1/\(ZaG s).1.2.2.1<=2)/\∃l:List Cell,l.length<=200/\(ZaG s).1.2.2.2.2.2.2=normX l:=by
 have hms:=mst;obtain⟨c0,b0,hch⟩:=ZVv h (by omega);obtain⟨c1,b1,l1⟩:=ZRI b0 (by omega);obtain⟨c2,b2,w0,w1⟩:=ZB b1 (by omega) 3 (by decide) (by decide);obtain⟨c3,b3,_⟩:=ZB b2 (by omega) 4 (by decide) (by decide);obtain⟨c4,b4,_⟩:=ZB b3 (by omega) 6 (by decide) (by decide);obtain⟨c5,b5,_⟩:=ZlV b4 (by omega);obtain⟨c6,b6,_⟩:=ZlV b5 (by omega)
 obtain⟨s2,hs2,b7⟩:∃s2,s2=((bif (Zd (Zd (Zd (nMap (ZaU s).2).2 3).2 4).2 6).1==0 then (Zcy (Zcy (Zd (Zd (Zd (nMap (ZaU s).2).2 3).2 4).2 6).2).2).2.1 else (Zd (Zd (Zd (nMap (ZaU s).2).2 3).2 4).2 6).2.1,
   bif (Zd (Zd (Zd (nMap (ZaU s).2).2 3).2 4).2 6).1==0 then (Zcy (Zcy (Zd (Zd (Zd (nMap (ZaU s).2).2 3).2 4).2 6).2).2).2.2 else (Zd (Zd (Zd (nMap (ZaU s).2).2 3).2 4).2 6).2.2):List Int×Int)/\NB s2 (k+30):=by
  refine⟨_,rfl,?_⟩;cases (Zd (Zd (Zd (nMap (ZaU s).2).2 3).2 4).2 6).1==0
  ·exact b4.up (by omega)
  ·exact b6.up (by omega)
 obtain⟨c8,b8,l8⟩:=ZEk b7 (by omega) 12 (by omega);have c8:Zgz s2 12=true:=c8;have b8:NB (ZbU s2 12).2 (k+30+1+10*((12:Nat):Int)):=b8;have l8:(ZbU s2 12).1.length<=12*12:=l8;obtain⟨c9,b9,d0,d1⟩:=ZB b8 (by omega) 4 (by decide) (by decide);have hl:=ZzE 0 (ZbU s2 12).1;obtain⟨q,hq⟩:∃q:Nat,(Zd (ZbU s2 12).2 4).1=(q:Int):=⟨_,(Yan d0).symm⟩;have hg:∀l:List Cell,Stg.l (newG Zci ZsU l)=l:=λ_=>rfl
 have key:∀x y z:BRDT,∀o:List Cell,o.length<=144->∃s' o',NB s' (k+200)/\o'.length<=200/\
   runF false ZeX (λ_=>400) ((q:Int),(Zd (ZbU s2 12).2 4).2,x,y,o,())=some (false,0,s',x,y,o',()):=by
  intro x y z o ho;obtain⟨r,hr,h1,s',o',g1,g2,g3⟩:=ZC (fl:=false) (t:=ZeX) (fuel:=λ_=>400)
   (λa=>∃(i:Nat) (s':List Int×Int) (o:List Cell),i<=q/\NB s' (k+30+1+10*((12:Nat):Int)+1+4*((q-i:Nat):Int))/\o.length<=144+3*(q-i)/\a=((i:Int),s',x,y,o,()))
   (λa=>Int.toNat a.1) (λr=>r.1=false/\∃s' o',NB s' (k+200)/\o'.length<=200/\r.2=(0,s',x,y,o',()))
   (by
    rintro a ⟨i,s',o,hi,hs',ho,rfl⟩;cases i with
    |zero=>
     right;left;exact⟨_,by simp only[ZeX,RT.val];rfl,rfl,s',o,hs'.up (by omega),by omega,rfl⟩
    |succ i=>
     left;have d:decide (((i+1:Nat):Int)>0)=true:=Yz (by omega);have w:IntKind.wrap .i64 (((i+1:Nat):Int)-1)=(i:Int):=by rw[wrap_i64 _ (by omega) (by omega)];omega
     obtain⟨k0,b0,e0,e1⟩:=ZB hs' (by omega) 6 (by decide) (by decide);obtain⟨k1,b1,_⟩:=Zkp b0 (by omega);have r1:Ze (Zd s' 6).1 6=true:=ZF.2 ⟨e0,e1⟩;have hsb:∀a b c:Int,smB [a,b,c]=true:=λa b c=>ZWF (by simp)
     have hll:=ZzE (IntKind.wrap .u16 (R.get (R.int .i64) [36,60,52,44,56,32] (Zd s' 6).1)) [(Zag (Zd s' 6).2).1,251,201];simp only[List.length_cons,List.length_nil] at hll;have hb:Nat.ble (o++Zqx (IntKind.wrap .u16 (R.get (R.int .i64) [36,60,52,44,56,32] (Zd s' 6).1)) [(Zag (Zd s' 6).2).1,251,201]).length most=true:=Zan (by rw[Yd];omega);refine⟨((i:Int),(Zag (Zd s' 6).2).2,x,y,o++Zqx (IntKind.wrap .u16 (R.get (R.int .i64) [36,60,52,44,56,32] (Zd s' 6).1)) [(Zag (Zd s' 6).2).1,251,201],()),?_,⟨i,_,_,by omega,b1.up (by omega),by rw[Yd];omega,rfl⟩,by simp only;omega⟩
     simp only[ZeX,RT.val,hg,List.length_cons,List.length_nil,Nat.reduceAdd,d,w,k0,k1,r1,hsb,hb,Ya,Yg,Yj,Yf,YF])
   ((q:Int),(Zd (ZbU s2 12).2 4).2,x,y,o,()) ⟨q,_,o,Ye _,b9.up (by omega),by omega,rfl⟩ (by simp only;omega)
  obtain⟨r1,r2⟩:=r;simp only at h1 g3;subst h1 g3;exact⟨s',o',g1,g2,hr⟩
 obtain⟨s',o',g1,g2,hr⟩:=key (0,[],0,0,0,false,[]) ((ZaU s).1,(nMap (ZaU s).2).1,(Zd (nMap (ZaU s).2).2 3).1,bif (Zd (Zd (Zd (nMap (ZaU s).2).2 3).2 4).2 6).1==0 then (Zcy (Zd (Zd (Zd (nMap (ZaU s).2).2 3).2 4).2 6).2).1 else 0,
  bif (Zd (Zd (Zd (nMap (ZaU s).2).2 3).2 4).2 6).1==0 then (Zcy (Zcy (Zd (Zd (Zd (nMap (ZaU s).2).2 3).2 4).2 6).2).2).1 else 4,(Zd (Zd (nMap (ZaU s).2).2 3).2 4).1==0,[]) (0,[],0,0,0,false,[]) (Zqx 0 (ZbU s2 12).1) (by omega)
 have hsc:smC o'=true:=Z1k (by omega);have hsb:smB (ZbU s2 12).1=true:=ZWF (by omega);have hv:∃p d,(Zpj s).val=some (((ZaU s).1,(nMap (ZaU s).2).1,(Zd (nMap (ZaU s).2).2 3).1,p,d,(Zd (Zd (nMap (ZaU s).2).2 3).2 4).1==0,normX o'),s'):=by
  refine⟨bif (Zd (Zd (Zd (nMap (ZaU s).2).2 3).2 4).2 6).1==0 then (Zcy (Zd (Zd (Zd (nMap (ZaU s).2).2 3).2 4).2 6).2).1 else 0,
   bif (Zd (Zd (Zd (nMap (ZaU s).2).2 3).2 4).2 6).1==0 then (Zcy (Zcy (Zd (Zd (Zd (nMap (ZaU s).2).2 3).2 4).2 6).2).2).1 else 4,?_⟩
  simp only[Zpj,RT.val,hg,<-hs2,c0,c1,c2,c3,c4,c5,c6,c8,c9,hsb,hq,hr,hsc,okB,getO,Ya,Yg,Yj,Yf,YF]
 obtain⟨p,d,hv⟩:=hv;have e1:Zpk s=true:=by simp only[Zpk,hv];rfl
 have e2:ZaG s=(((ZaU s).1,(nMap (ZaU s).2).1,(Zd (nMap (ZaU s).2).2 3).1,p,d,(Zd (Zd (nMap (ZaU s).2).2 3).2 4).1==0,normX o'),s'):=by simp only[ZaG,hv,getO]
 rw[e2];exact⟨e1,g1.up (by omega),⟨_,b0,rfl⟩,hch,⟨w0,by show (Zd (nMap (ZaU s).2).2 3).1<=2;omega⟩,o',g2,rfl⟩
theorem ZYm (s:Int) {l:Int} (h:0<=l):vOnC s l=true:=by simp only[vOnC,vOnT,RT.val,Yz h,Ya,okB]
theorem ZsR (s k:Int):ZqS s k=true/\ -1<=ZhN s k/\ZhN s k<=7:=by
 obtain⟨r,hr,h0,h1,h2⟩:=ZC (fl:=false) (t:=Zis) (fuel:=λ_=>9)
  (λa=>∃(i:Nat) (m:Int),i<=8/\ -1<=m/\m<=7/\a=(s,k,m,(i:Int),()))
  (λa=>Int.toNat (8-a.2.2.2.1)) (λr=>r.1=false/\ -1<=r.2.2.2.1/\r.2.2.2.1<=7)
  (by
   rintro a ⟨i,m,hi,h1,h2,rfl⟩;by_cases hlt:i<8
   ·left;have d:decide ((i:Int)<8)=true:=Yz (by omega);have w:IntKind.wrap .i64 ((i:Int)+1)=((i+1:Nat):Int):=by rw[wrap_i64 _ (by omega) (by omega)];omega
    have c:vOnC s (i:Int)=true:=ZYm s (by omega);refine⟨(s,k,bif vOn s (i:Int)&&(decide (m<0)||decide (ZjN (i:Int) k<ZjN m k)) then (i:Int) else m,((i+1:Nat):Int),()),by simp only[Zis,RT.val,d,c,w,Ya],⟨i+1,_,by omega,?_,?_,rfl⟩,by simp only;omega⟩
    ·cases vOn s (i:Int)&&(decide (m<0)||decide (ZjN (i:Int) k<ZjN m k))<;>simp only[Ya,Yc]<;>omega
    ·cases vOn s (i:Int)&&(decide (m<0)||decide (ZjN (i:Int) k<ZjN m k))<;>simp only[Ya,Yc]<;>omega
   ·right;left;have d:decide ((i:Int)<8)=false:=Y0 (by omega)
    exact⟨(s,k,m,(i:Int),()),by simp only[Zis,RT.val,d,Yc],rfl,h1,h2⟩)
  (s,k,-1,0,()) ⟨0,-1,by omega,by omega,by omega,rfl⟩ (by simp only;omega)
 obtain⟨r1,r2⟩:=r;simp only at h0 h1 h2;subst h0;have hv:(Zxx s k).val=some r2.2.2.1:=by simp only[Zxx,RT.val,hr,okB,getO,Ya]
 exact⟨by simp only[ZqS,hv];rfl,by simp only[ZhN,hv,getO];exact h1,by simp only[ZhN,hv,getO];exact h2⟩
theorem ZAN (p:PICT):ZIR p=true/\ -1<=vPck p/\vPck p<=7:=by
 have key:∀r m s k q,∃v:Int,(Zxw r m s k q).val=some v/\ -1<=v/\v<=7:=by
  intro r m s k q;have h1:=ZsR (Zce .u8 r m) k;have h2:=ZsR (ZkT m s q) k;simp only[Zxw,RT.val,h1.1,h2.1,Ya];cases decide (ZhN (Zce .u8 r m) k>=0)&&(decide (ZhN (ZkT m s q) k<0)||decide (ZjN (ZhN (Zce .u8 r m) k) k<ZjN (ZhN (ZkT m s q) k) k))
  ·exact⟨-1,rfl,by omega,by omega⟩
  ·exact⟨_,rfl,h1.2.1,h1.2.2⟩
 obtain⟨v,hv,h1,h2⟩:=key (vReq p) p.2.2.2.2.2.2.2.2.2.2.2.2.2.2.2.1 p.2.2.2.2.2.2.2.2.2.2.2.2.2.2.1 p.2.2.2.2.2.2.2.2.2.2.2.2.2.2.2.2.1 p.2.2.2.2.2.2.2.2.2.1;have e:(ZM3 p).val=some v:=by simp only[ZM3,RT.val,ZM2,ZYk,hv,okB,getO,Ya]
 exact⟨by simp only[ZIR,e];rfl,by simp only[vPck,e,getO];exact h1,by simp only[vPck,e,getO];exact h2⟩
theorem ZYp (p:PICT):ZTE p=true:=by simp only[ZTE,ZTD,RT.val,(ZAN p).1,Ya,okB]
variable {x:Int}
theorem ZFv (p:PICT) (h:0<=x):Zmu p x=true:=by simp only[Zmu,ZFw,RT.val,Yz h,Ya,okB]
theorem ZFM (p:PICT) (h:0<=x):Zmy p x=true:=by simp only[Zmy,ZFN,RT.val,Yz h,Ya,okB]
theorem ZYs (p:PICT):ZTH p=true:=by
 have h1:=(ZAN p).1;have h3:∀q:PICT,Zmy q (andI .i64 p.2.2.2.2.2.2.2.2.2.2.2.2.2.2.2.2.2.2.1 7)=true:=λq=>ZFM q (and7 _).1
 have h2:∀q:PICT,(!decide (vPck p>=0)||Zmu q (vPck p))=true:=λq=>by
  by_cases h:vPck p>=0
  ·rw[ZFv q h,Yf]
  ·rw[Y0 h];rfl
 unfold ZTH ZTG;simp only[RT.val,h1,h2,h3,Yf,Ya];cases p.2.2.2.2.2.2.2.2.2.2.2.2.2.2.2.2.2.1==0
 ·cases p.2.2.2.2.2.2.2.2.2.2.2.2.2.2.2.2.2.1==1
  ·rfl
  ·cases p.2.2.1<;>rfl
 ·rfl
theorem ZTx (p:PICT) (h:Bool):ZFz p h=true:=by
 have h1:=(ZAN p).1;unfold ZFz ZFx;by_cases hx:0<=vPck p
 ·have h2:∀q:PICT,Zmu q (vPck p)=true:=λq=>ZFv q hx
  have h3:∀q:PICT,Zmy q (vPck p)=true:=λq=>ZFM q hx
  simp only[RT.val,h1,h2,h3,ZcN,ZbT,Yf,Yg,Ya];cases h
  ·cases p.2.2.2.2.2.2.2.2.2.2.2.1
   ·cases p.2.2.2.2.2.2.2.2.2.2.1<;>rfl
   ·cases decide (vPck p<0)<;>rfl
  ·rfl
 ·have h2:decide (vPck p<0)=true:=Yz (by omega);simp only[RT.val,h1,h2,ZcN,ZbT,Yf,Yt,Yg,Ya];cases h
  ·cases p.2.2.2.2.2.2.2.2.2.2.2.1
   ·cases p.2.2.2.2.2.2.2.2.2.2.1<;>rfl
   ·rfl
  ·rfl
theorem ZTC (p:PICT) (v:Int):ZFF p v=true:=by
 have h1:=λs k=>(ZsR s k).1
 have h2:∀x:Int,(!decide (x>=0)||decide (0<=x))=true:=λx=>by by_cases h:0<=x<;>simp[h]
 have h3:decide (0<=IntKind.wrap .i64 (andI .u8 v 7))=true:=by have:=and7b v;rw[wrap_i64 _ (by omega) (by omega)];exact Yz this.1
 unfold ZFF ZFE;simp only[RT.val,h1,h2,h3,ZcN,ZbT,Yf,Yg,Ya];rfl
theorem ZML (p:PICT) (h:Bool) (v:Int):ZsM p h v=true:=by
 unfold ZsM ZsK;simp only[RT.val,ZTC,Yf,Ya];cases h
 ·cases andI .u8 v 16 !=0
  ·cases andI .u8 v 8==0<;>rfl
  ·rfl
 ·rfl
theorem ZMT (d:QT7) (r:Int):ZsP d r=true:=by have h:=and3 r;have h1:decide (0<=andI .i64 r 3/\andI .i64 r 3<4)=true:=Yz ⟨h.1,by omega⟩;simp only[ZsP,ZsN,RT.val,h1,Ya,okB]
theorem Zej (o:Bool) {n:Int} (h:0<=n):Ze8 o n=true:=by simp only[Ze8,ZTv,RT.val,Yz h,Yf,Ya];cases o<;>rfl
theorem ZIM (l:List INPT) (hl:l.length<=1000):ZFk l=true/\(Zml l).length=4*l.length:=by
 have hms:=mst;obtain⟨r,hr,h0,h1⟩:=ZC (fl:=false) (t:=ZdF) (fuel:=λ_=>10000000000000)
  (λa=>∃(i:Nat) (o:List Int),i<=l.length/\o.length=4*i/\a=(l,(l.length:Int),(i:Int),o,()))
  (λa=>Int.toNat (a.2.1-a.2.2.1)) (λr=>r.1=false/\r.2.2.2.2.1.length=4*l.length)
  (by
   rintro a ⟨i,o,hi,ho,rfl⟩;by_cases hlt:i<l.length
   ·left;have d:decide ((i:Int)<(l.length:Int))=true:=Yz (by omega);have d2:decide ((i:Int)>=65536)=false:=Y0 (by omega);have hin:Ze (i:Int) l.length=true:=ZF.2 ⟨by omega,by omega⟩;have w:IntKind.wrap .i64 ((i:Int)+1)=((i+1:Nat):Int):=by rw[wrap_i64 _ (by omega) (by omega)];omega
    have hb:∀a b c d:Int,Nat.ble (o++[a,b,c,d]).length most=true:=λa b c d=>Zan (by simp;omega)
    have b0:=λx=>Zej x (n:=0) (by decide)
    have b1:=λx=>Zej x (n:=1) (by decide)
    have b2:=λx=>Zej x (n:=2) (by decide)
    have b3:=λx=>Zej x (n:=3) (by decide)
    have b4:=λx=>Zej x (n:=4) (by decide)
    have b5:=λx=>Zej x (n:=5) (by decide)
    have b6:=λx=>Zej x (n:=6) (by decide)
    have b7:=λx=>Zej x (n:=7) (by decide)
    have hv:∃a b c d:Int,(ZdF (l,(l.length:Int),(i:Int),o,())).val=some (Go1.cont (l,(l.length:Int),((i+1:Nat):Int),o++[a,b,c,d],())):=by simp only[ZdF,RT.val,d,d2,hin,w,hb,b0,b1,b2,b3,b4,b5,b6,b7,ZcN,ZbT,Yf,Yg,Yj,YF,Ya,Yc];exact⟨_,_,_,_,rfl⟩
    obtain⟨a,b,c,d,hv⟩:=hv;exact⟨_,hv,⟨i+1,_,by omega,by simp;omega,rfl⟩,by simp only;omega⟩
   ·right;left;have d:decide ((i:Int)<(l.length:Int))=false:=Y0 (by omega)
    exact⟨(l,(l.length:Int),(i:Int),o,()),by simp only[ZdF,RT.val,d,Yc],rfl,by simp only;omega⟩)
  (l,(l.length:Int),0,[],()) ⟨0,[],by omega,rfl,rfl⟩ (by simp only;omega)
 obtain⟨r1,r2⟩:=r;simp only at h0 h1;subst h0;have hv:(ZgQ l).val=some r2.2.2.2.1:=by simp only[ZgQ,RT.val,iN,Le,hr,okB,getO,Ya]
 exact⟨by simp only[ZFk,hv];rfl,by simp only[Zml,hv,getO];exact h1⟩
theorem ZqJ (l:List Int) (hl:l.length<=4000):Zlr l=true/\(Za7 l).length=l.length/4:=by
 have hms:=mst;obtain⟨r,hr,h0,h1⟩:=ZC (fl:=false) (t:=ZcJ) (fuel:=λ_=>10000000000000)
  (λa=>∃(i:Nat) (o:List INPT),4*i<=l.length/\o.length=i/\a=(l,((4*i:Nat):Int),o,()))
  (λa=>Int.toNat (l.length-a.2.1)) (λr=>r.1=false/\r.2.2.2.1.length=l.length/4)
  (by
   rintro a ⟨i,o,hi,ho,rfl⟩;have w1:IntKind.wrap .i64 (((4*i:Nat):Int)+1)=((4*i+1:Nat):Int):=by rw[wrap_i64 _ (by omega) (by omega)];omega
   have w2:IntKind.wrap .i64 (((4*i:Nat):Int)+2)=((4*i+2:Nat):Int):=by rw[wrap_i64 _ (by omega) (by omega)];omega
   have w3:IntKind.wrap .i64 (((4*i:Nat):Int)+3)=((4*i+3:Nat):Int):=by rw[wrap_i64 _ (by omega) (by omega)];omega
   have w4:IntKind.wrap .i64 (((4*i:Nat):Int)+4)=((4*(i+1):Nat):Int):=by rw[wrap_i64 _ (by omega) (by omega)];omega
   by_cases hlt:4*i+4<=l.length
   ·left;have d:(decide (((4*(i+1):Nat):Int)<=iN l.length)&&decide (iN o.length<65536))=true:=by simp only[iN,Le,Yb,Yk];omega
    have i0:Ze ((4*i:Nat):Int) l.length=true:=ZF.2 ⟨by omega,by omega⟩;have i1:Ze ((4*i+1:Nat):Int) l.length=true:=ZF.2 ⟨by omega,by omega⟩;have i2:Ze ((4*i+2:Nat):Int) l.length=true:=ZF.2 ⟨by omega,by omega⟩;have i3:Ze ((4*i+3:Nat):Int) l.length=true:=ZF.2 ⟨by omega,by omega⟩;have hb:∀a:INPT,Nat.ble (o++[a]).length most=true:=λa=>Zan (by simp;omega)
    have hv:∃x:INPT,(ZcJ (l,((4*i:Nat):Int),o,())).val=some (Go1.cont (l,((4*(i+1):Nat):Int),o++[x],())):=by
     simp only[ZcJ,RT.val,w1,w2,w3,w4,d,i0,i1,i2,i3,hb,ZcN,ZbT,Yf,Yg,Yj,YF,Ya,Yc];cases R.get (R.int .u8) l ((4*i+3:Nat):Int) !=Zxp (R.get (R.int .u8) l ((4*i:Nat):Int)) (R.get (R.int .u8) l ((4*i+1:Nat):Int)) (R.get (R.int .u8) l ((4*i+2:Nat):Int))
     ·exact⟨_,rfl⟩
     ·exact⟨_,rfl⟩
    obtain⟨x,hv⟩:=hv;exact⟨_,hv,⟨i+1,_,by omega,by simp;omega,rfl⟩,by simp only;omega⟩
   ·right;left;have d:(decide (((4*(i+1):Nat):Int)<=iN l.length)&&decide (iN o.length<65536))=false:=by simp only[iN,Le,Yaj,Yab];left;omega
    exact⟨(l,((4*i:Nat):Int),o,()),by simp only[ZcJ,RT.val,w4,d,Yc],rfl,by simp only;omega⟩)
  (l,0,[],()) ⟨0,[],by omega,rfl,rfl⟩ (by simp only;omega)
 obtain⟨r1,r2⟩:=r;simp only at h0 h1;subst h0;have hv:(Zim l).val=some r2.2.2.1:=by simp only[Zim,RT.val,hr,okB,getO,Ya]
 exact⟨by simp only[Zlr,hv];rfl,by simp only[Za7,hv,getO];exact h1⟩
abbrev MacT:=List Z6×List Cell×List Int×List (Int×Int)
theorem cle {b:Bool} {x y:List Cyc} {n:Nat} (hx:x.length<=n) (hy:y.length<=n):(bif b then x else y).length<=n:=by cases b<;>assumption
theorem ZV6 (c:CpuT) (inj:Bool) (g:List Int) (i:InsT):(ZjB c inj g i).length<=4:=by
 unfold ZjB;simp only[Zcj,ZiE,Zei,Zch,popX];repeat' apply cle
 all_goals first
  |(simp only[List.length_cons,List.length_nil,Yd];omega)
  |(cases i.2.2.1==6<;>cases Zbe c i<;>cases c.1==2<;>simp;done)
  |skip
theorem ZUN (c:CpuT) (s:Int) (g:List Int):(Zh0 c s g).length<=5:=by
 have h:=λo=>ZV6 c (s==5) g (Zb c.1 o)
 unfold Zh0;cases g with
 |nil=>exact cle (by simp[Zch]) (by simp)
 |cons o l=>exact cle (by simp[Zch]) (by simpa using h o)
theorem Zv4 (c:CpuT) (s:Int) (g:List Int) (h:5<=g.length):(Zi c s g).2=false:=by have hp:=ZUN c s g;unfold Zi;simp[pick];omega
theorem Zw9 (l:List Z6) (m:List Cell) (t v:Int):(Zay l m t v).length<=m.length+1:=by
 have h:=Zd4 m;unfold Zay;cases decide (Za6 l t>=0)&&(R.get GR l (Za6 l t)).2.2.1
 ·exact YS h (YaK _)
 ·exact YS (ZuJ _ _) (by omega)
def pre (o:List (Int×Int)) (m:MacT):MacT:=(m.1,m.2.1,m.2.2.1,o++m.2.2.2)
