import Derived.Test.YtpnjbfjomebppaaGreatS3New
import Derived.Test.YtpnjbfjomebppaaGreatRunL
open Go.Proofs.Tryz (prog)
open Go.IntKind (u8 u16 i64)
set_option linter.unusedSimpArgs false
open Go Go.S3 Go.Proofs
set_option linter.unusedVariables false
set_option maxRecDepth 100000
namespace Go.Proofs.YtpnjbfjomebppaaGreat
noncomputable section
def ZYL:LS:={n:=53,Sl:=[(3,.fix (A.loc 0 0)),(5,.tip 0),(6,.code (So R.bool)),(9,.code (So rcCE)),(10,.code (So Kc)),(11,.code (So Kc))],Bx:=[[.many (R.Pq Kb Ka)]],Sg:=[⟨(R.Pq Kb Ka),75,false⟩]}
def ZI8 (a:QT9):RT (Option (Go1 (QT9))):=
 let x1:Int×Int:=R.get (R.Pq Kb Ka) a.2.1 a.2.2.2.1
 let x2:=x1.1
 let x3:= !a.1&&decide (x2>=a.2.2.2.2.1.1)
 let x4:List (Int×Int):=a.2.2.2.2.2.1++[a.2.2.2.2.1]
 let x5:= !x3||(!a.2.2.2.2.1.2 !=0||Nat.ble (Le x4) most)
 let x6:=x2 !=a.2.2.2.2.1.1
 let x7:List (Int×Int):=bif x3 then bif a.2.2.2.2.1.2 !=0 then x4 else a.2.2.2.2.2.1 else a.2.2.2.2.2.1
 let x8:List (Int×Int):=x7++[x1]
 .br (decide (a.2.2.2.1<a.2.2.1)) (.br (!Zg a.2.2.2.1 (Le a.2.1)||(!x5||(!x6||Nat.ble (Le x8) most))) (.br (!Zg a.2.2.2.1 (Le a.2.1)||x5) (.br (Zg a.2.2.2.1 (Le a.2.1)) (Ls (Go1.cont (x3||a.1,a.2.1,a.2.2.1,i64.wrap (a.2.2.2.1+1),a.2.2.2.2.1,bif x6 then x8 else x7,PUnit.unit))) Ln) Ln) Ln) (Ls (Go1.brk (a.1,a.2.1,a.2.2.1,a.2.2.2.1,a.2.2.2.2.1,a.2.2.2.2.2.1,PUnit.unit)))
def ZI9:Ora:=Zbn false ZYL ZI8 (λa=>1000000000000)
theorem ZMv:ZaU (envX prog [] [] 511 8) (.block 0 (.loop (Z7 Tryz.f165.body 0))) ZI9:=
 loopP trivial
def ZI7 (m:List (Int×Int)) (c:Int×Int):RT (Option (List (Int×Int))):=
 let x1:QT9:=(false,m,iN (Le m),0,c,[],())
 let x2:=runF false ZI8 (λa=>1000000000000) x1
 let x3:QT9:=(getO (false,x1) x2).2
 let x4:=x3.2.2.2.2
 let x5:=x4.1
 let x6:= !x3.1&&x5.2 !=0
 let x7:=x4.2.1
 let x8:List (Int×Int):=x7++[x5]
 .br (okB x2) (.br (!x6||Nat.ble (Le x8) most) (Ls (bif x6 then x8 else x7)) Ln) Ln
def ZYM (m:List (Int×Int)) (c:Int×Int):List (Int×Int):=getO [] (ZI7 m c).val
def ZJa (m:List (Int×Int)) (c:Int×Int):Bool:=okB (ZI7 m c).val
def ZR2:En:=frzE (newE Zc6 Zur ZR5 (λa=>some (ZJa a.1 a.2)) (λa=>ZYM a.1 a.2))
theorem ZR3:Za prog 165 (newE Zc6 Zur ZR5 (λa=>some (ZJa a.1 a.2)) (λa=>ZYM a.1 a.2)):=
 Znc (P:=prog) (n:=511) (k:=8) (l:=[]) (ol:=[(0,ZI9)]) trivial Tryz.func165 rfl (by kernel_rfl) Tryz.call165 ⟨ZMv,Tv⟩ (r:=Zc6) (T:=Zur) (ts:=ZR5) (t:=λa=>ZI7 a.1 a.2) (λa=>by kernel_rfl)
theorem ZI6:Za prog 165 ZR2:=ZCg ZR3
def ZSo:LS:={n:=21,Sl:=[(3,.tip 0),(10,.code (So rcCE)),(11,.code (So Kc)),(12,.code (So Kc))],Bx:=[],Sg:=[⟨(R.Pq Kb Ka),75,false⟩]}
def Zhf (a:List (Int×Int)×Int×Int×List (Int×Int)×PUnit):RT (Option (Go1 (List (Int×Int)×Int×Int×List (Int×Int)×PUnit))):=
 .br (decide (a.2.2.1<a.2.1)) (.br (!Zg a.2.2.1 (Le a.1)||ZJa a.2.2.2.1 (R.get (R.Pq Kb Ka) a.1 a.2.2.1)) (.br (Zg a.2.2.1 (Le a.1)) (Ls (Go1.cont (a.1,a.2.1,i64.wrap (a.2.2.1+1),Stg.l (newG Zc6 Zur (ZYM a.2.2.2.1 (R.get (R.Pq Kb Ka) a.1 a.2.2.1))),PUnit.unit))) Ln) Ln) (Ls (Go1.brk (a.1,a.2.1,a.2.2.1,a.2.2.2.1,PUnit.unit)))
def ZAr:Ora:=Zbn false ZSo Zhf (λa=>1000000000000)
theorem ZDW:ZaU (envX prog [(105,ZmP),(165,ZR2)] [] 63 8) (.block 0 (.loop (Z7 Tryz.f93.body 0))) ZAr:=
 loopP ⟨Zk2,ZI6,Tv⟩
def Zk5 (l:List (Int×Int)):RT (Option (List (Int×Int))):=
 let x1:=runF false Zhf (λa=>1000000000000) (l,iN (Le l),0,[],())
 .br (smC l) (.br (!vldB l||Nat.ble (Le ([]++l)) most) (.br (vldB l) (Ls ([]++l)) (.br (okB x1) (Ls (getO (false,l,iN (Le l),0,[],()) x1).2.2.2.2.1) Ln)) Ln) Ln
def ZAs (l:List (Int×Int)):List (Int×Int):=getO [] (Zk5 l).val
def Zok (l:List (Int×Int)):Bool:=okB (Zk5 l).val
def ZDX:En:=frzE (newE Zc6 Zur ZWj (λa=>some (Zok a)) (λa=>ZAs a))
theorem ZMy:Za prog 93 (newE Zc6 Zur ZWj (λa=>some (Zok a)) (λa=>ZAs a)):=
 Znc (P:=prog) (n:=63) (k:=8) (l:=[(105,ZmP),(165,ZR2)]) (ol:=[(0,ZAr)]) ⟨Zk2,ZI6,Tv⟩ Tryz.func93 rfl (by kernel_rfl) Tryz.call93 ⟨ZDW,Tv⟩ (r:=Zc6) (T:=Zur) (ts:=ZWj) (t:=λa=>Zk5 a) (λa=>by kernel_rfl)
theorem ZAq:Za prog 93 ZDX:=ZCg ZMy
abbrev Zvv:List Sh:=[So Kb,So (R.sl Ka)]
def ZSv:LS:={n:=27,Sl:=[(0,.code (So Kb)),(1,.code (So (R.sl Ka))),(5,.tip 0),(8,.code (So Kc)),(9,.code (So Kc))],Bx:=[],Sg:=[⟨(R.Pq Kb Ka),75,true⟩]}
def Zhg (a:QT30):RT (Option (Go1 (QT30))):=
 let x1:List (Int×Int):=a.2.2.2.2.1++[(u16.wrap (a.1+u16.wrap a.2.2.2.1),R.get Ka a.2.1 a.2.2.2.1)]
 let x2:= !Zg a.2.2.2.1 (Le a.2.1)||Nat.ble (Le x1) most
 .br (decide (a.2.2.2.1<a.2.2.1)) (.br (!x2||Zg a.2.2.2.1 (Le a.2.1)) (.br (x2) (Ls (Go1.cont (a.1,a.2.1,a.2.2.1,i64.wrap (a.2.2.2.1+1),x1,PUnit.unit))) Ln) Ln) (Ls (Go1.brk (a.1,a.2.1,a.2.2.1,a.2.2.2.1,a.2.2.2.2.1,PUnit.unit)))
def ZAt:Ora:=Zbn false ZSv Zhg (λa=>1000000000000)
theorem ZEB:ZaU (envX prog [(93,ZDX)] [] 127 8) (.block 0 (.loop (Z7 Tryz.f59.body 0))) ZAt:=
 loopP ⟨ZAq,Tv⟩
def ZoZ (t:Int) (b:List Int):RT (Option (List (Int×Int))):=
 let x1:=runF false Zhg (λa=>1000000000000) (t,b,iN (Le b),0,[],())
 let x2:List (Int×Int):=(getO (false,t,b,iN (Le b),0,[],()) x1).2.2.2.2.2.1
 .br (okB x1) (.br (Zok x2) (Ls (Stg.l (newG Zc6 Zur (ZAs x2)))) Ln) Ln
def ZSw (t:Int) (b:List Int):List (Int×Int):=getO [] (ZoZ t b).val
def ZEC (t:Int) (b:List Int):Bool:=okB (ZoZ t b).val
theorem ZML:Za prog 59 (newE Zc6 Zur Zvv (λa=>some (ZEC a.1 a.2)) (λa=>ZSw a.1 a.2)):=
 Znc (P:=prog) (n:=127) (k:=8) (l:=[(93,ZDX)]) (ol:=[(0,ZAt)]) ⟨ZAq,Tv⟩ Tryz.func59 rfl (by kernel_rfl) Tryz.call59 ⟨ZEB,Tv⟩ (r:=Zc6) (T:=Zur) (ts:=Zvv) (t:=λa=>ZoZ a.1 a.2) (λa=>by kernel_rfl)
end
end Go.Proofs.YtpnjbfjomebppaaGreat
open Go Go.S3 Go.Proofs Go.Proofs.Cells
namespace Go.Proofs.YtpnjbfjomebppaaGreat
noncomputable section
theorem ZRv (m:List Cell) (c:Cell) (hv:Vld m) (hm:m.length+1<=most):ZJa m c=true/\ZYM m c=putX m c:=by have h:=Zn1 m c hv hm;have e:ZI7 m c=Zs2 m c:=rfl;simp only[Zs3,ZMx,<-e] at h;exact h
theorem ZMf (l:List Cell) (hl:l.length+1<=most):Zok l=true/\ZAs l=normX l:=by
 have hms:=mst;have hs:smC l=true:=(ZsF.2 hl:sm l=true);have hv:(Zk5 l).val=some (normX l):=by
  cases hb:vldB l with
  |true=>
   have e:Nat.ble l.length most=true:=by rw[Yz];omega
   simp only[Zk5,RT.val,hs,hb,List.nil_append,e,Yb,Yf,Yj,Zlr (Zug.1 hb)]
  |false=>
   obtain⟨r,hr,h1,i,hR⟩:=ZS (fl:=false) (t:=Zhf) (fuel:=λa=>1000000000000)
    (λa=>∃i:Nat,i<=l.length/\a=(l,(l.length:Int),(i:Int),normX (l.take i),()))
    (λa=>Int.toNat (a.2.1-a.2.2.1)) (λr=>r.1=false/\∃i:Nat,r.2=(l,(l.length:Int),(i:Int),normX l,()))
    (by
     rintro a ⟨i,hi,rfl⟩;by_cases hlt:i<l.length
     ·left;have d:decide ((i:Int)<(l.length:Int))=true:=by simpa using hlt
      have r1:=Zay l i hlt;have hlen:=ZeQ (l.take i);rw[YH] at hlen;have hp:=ZRv (normX (l.take i)) (el l i) (Zj4 _) (by omega);refine⟨_,?_,⟨i+1,hlt,rfl⟩,by simp only;omega⟩;rw[ZDb l i hlt,Zlq];simp only[Zhf,RT.val,d,r1,ZcM,hp.1,hp.2,Yb,Yh,Zio i (by omega)]
     ·right;left;have d:decide ((i:Int)<(l.length:Int))=false:=by simpa using hlt
      have e:l.take i=l:=YX (by omega);rw[e]
      exact⟨_,by simp only[Zhf,RT.val,d,Yc],rfl,i,rfl⟩)
    (l,iN l.length,0,[],()) ⟨0,YA _,rfl⟩ (by simp only[iN];omega)
   obtain⟨r1,r2⟩:=r;simp only at h1 hR;subst h1 hR;simp only[Zk5,RT.val,hs,hb,hr,okB,getO,Yb,Yc,Ym,Yt]
 exact⟨by simp only[Zok,hv];rfl,by simp only[ZAs,hv,getO]⟩
theorem ZMg (t:Int) (b:List Int) (hb:b.length+1<=most):ZEC t b=true/\ZSw t b=Zr2 t b:=by
 have hms:=mst;obtain⟨r,hr,h1,hR⟩:=ZS (fl:=false) (t:=Zhg) (fuel:=λa=>1000000000000)
  (λa=>∃i:Nat,i<=b.length/\a=(t,b,(b.length:Int),(i:Int),Zq7 t b i,()))
  (λa=>Int.toNat (a.2.2.1-a.2.2.2.1)) (λr=>r.1=false/\r.2=(t,b,(b.length:Int),(b.length:Int),Zq7 t b b.length,()))
  (by
   rintro a ⟨i,hi,rfl⟩;by_cases hlt:i<b.length
   ·left;have d:decide ((i:Int)<(b.length:Int))=true:=by simpa using hlt
    have r1:=Zay b i hlt;have hl:∀x:Cell,Nat.ble (Zq7 t b i++[x]).length most=true:=λx=>by rw[Yz,Yd,Zq6];simp only[List.length_singleton];omega
    refine⟨_,?_,⟨i+1,hlt,rfl⟩,by simp only;omega⟩;rw[ZO6];have g:=get_d b i;simp only[Zhg,RT.val,d,r1,g,hl,Yb,Yf,Yj,Zio i (by omega)]
   ·right;left;have d:decide ((i:Int)<(b.length:Int))=false:=by simpa using hlt
    have e:i=b.length:=by omega
    subst e
    exact⟨_,by simp only[Zhg,RT.val,d,Yc],rfl,rfl⟩)
  (t,b,iN b.length,0,[],()) ⟨0,YA _,rfl⟩ (by simp only[iN];omega)
 obtain⟨r1,r2⟩:=r;simp only at h1 hR;subst h1 hR;have hn:=ZMf (Zq7 t b b.length) (by rw[Zq6];exact hb);have hv:(ZoZ t b).val=some (Zr2 t b):=by simp only[ZoZ,RT.val,hr,okB,getO,Yb,hn.1,hn.2,Zr2]
 exact⟨by simp only[ZEC,hv];rfl,by simp only[ZSw,hv,getO]⟩
def Zvw:En:=frzE (newE Zc6 Zur Zvv (λa=>some (smB a.2)) (λa=>Zr2 a.1 a.2))
theorem Zs9:Za Tryz.prog 59 Zvw:=ZCg (ZOP ZML λa _ h=>by
 have hb:smB a.2=true:=by cases hq:smB a.2 with
  |true=>rfl
  |false=>rw[hq] at h;exact absurd rfl h
 obtain⟨h1,h2⟩:=ZMg a.1 a.2 (ZsF.1 hb)
 exact⟨by rw[h1];simp,h2⟩)
def ZKZ (s:List Int×Int):RT (Option (Bool×List Int×Int)):=
 .br (Zj s 2) (Ls (((Zd s 2).1==1,(Zd s 2).2))) Ln
def ZE (s:List Int×Int):Bool×List Int×Int:=getO (ZpN.Df,ZG2.Df) (ZKZ s).val
def Zav (s:List Int×Int):Bool:=okB (ZKZ s).val
def ZV0:En:=boxE ZG2 ZAG ZpN (λa=>some (Zav a.1)) (λa=>ZE a.1)
theorem ZKY:Za prog 69 ZV0:=
 ZcB (P:=prog) (n:=7) (k:=8) (l:=[(68,Zc3)]) (ol:=[]) ⟨Za5,Tv⟩ Tryz.func69 rfl (by kernel_rfl) Tryz.call69 trivial (rb:=ZG2) (ts:=ZAG) (rs:=ZpN) (t:=λa=>ZKZ a.1) (λa=>by kernel_rfl)
abbrev ZfX:R:=R.Pq Kb (R.Pq Kb (R.Pq R.bool Kc))
abbrev ZfY:Nat:=110
def ZGY:LS:={n:=44,Sl:=[(0,.fix (A.loc 0 0)),(5,.tip 0),(6,.code (So Kc))],Bx:=[[.many (R.Pq (R.sl Kc) Kc)]],Sg:=[⟨(R.Pq Kb (R.Pq Kb (R.Pq R.bool Kc))),110,false⟩]}
def ZeS (a:QT20):RT (Option (Go1 (QT20))):=
 let x1:= !Zj (Zb9 a.2.1).2 6||Zg (Zd (Zb9 a.2.1).2 6).1 (Le [0,3,15,255,4095,65535])
 let x2:= !x1
 let x3:= !Zj (Zd (Zd (Zb9 a.2.1).2 6).2 3).2 5
 let x4:Int:=(Zd (Zd (Zd (Zb9 a.2.1).2 6).2 3).2 5).1
 let x5:=Zg x4 (Le [0,0,1,2,5])
 let x6:=i64.wrap (i64.wrap (Zb9 a.2.1).1+R.get Kc [0,3,15,255,4095,65535] (Zd (Zb9 a.2.1).2 6).1)
 let x7:List (QT6):=a.2.2.1++[((Zb9 a.2.1).1,u16.wrap (if 65535<x6 then 65535 else x6),decide ((Zd (Zd (Zb9 a.2.1).2 6).2 3).1>0),R.get Kc [0,0,1,2,5] x4)]
 let x8:= !Zj (Zd (Zb9 a.2.1).2 6).2 3||(x3||(!x5||Nat.ble (Le x7) most))
 let x9:= !x8
 let x10:= !Zj (Zd (Zb9 a.2.1).2 6).2 3||(x3||x5)
 let x11:= !x10
 let x12:= !Zj (Zd (Zb9 a.2.1).2 6).2 3||Zj (Zd (Zd (Zb9 a.2.1).2 6).2 3).2 5
 .br (decide (a.1>0)) (.br (!ZgI a.2.1||(x2||(!Zj (Zb9 a.2.1).2 6||(x9||(x11||(!x12||Zj (Zd (Zb9 a.2.1).2 6).2 3)))))) (.br (!ZgI a.2.1||(x2||(!Zj (Zb9 a.2.1).2 6||(x9||(x11||x12))))) (.br (!ZgI a.2.1||(x2||(!Zj (Zb9 a.2.1).2 6||(x9||x10)))) (.br (!ZgI a.2.1||(x2||(!Zj (Zb9 a.2.1).2 6||x8))) (.br (!ZgI a.2.1||(x2||Zj (Zb9 a.2.1).2 6)) (.br (!ZgI a.2.1||x1) (.br (ZgI a.2.1) (Ls (Go1.cont (i64.wrap (a.1-1),(Zd (Zd (Zd (Zb9 a.2.1).2 6).2 3).2 5).2,x7,PUnit.unit))) Ln) Ln) Ln) Ln) Ln) Ln) Ln) (Ls (Go1.brk (a.1,a.2.1,a.2.2.1,PUnit.unit)))
def ZqH:Ora:=Zbn false ZGY ZeS (λa=>400)
theorem Zx8:ZaU (envX prog [(68,Zc3),(70,ZVP)] [] 511 8) (.block 0 (.loop (Z7 Tryz.f188.body 0))) ZqH:=
 loopP ⟨Za5,ZKU,Tv⟩
def Zhx (s:List Int×Int) (n:Int):RT (Option (List (QT6)×List Int×Int)):=
 let x1:QT20:=((Zd s (i64.wrap (n+1))).1,(Zd s (i64.wrap (n+1))).2,[],())
 let x2:=runF false ZeS (λa=>400) x1
 let x3:(List Int×Int)×List (QT6)×PUnit:=(getO (false,x1) x2).2.2
 .br (Zj s (i64.wrap (n+1))) (.br (okB x2) (Ls ((x3.2.1,x3.1))) Ln) Ln
def Zbz (s:List Int×Int) (n:Int):List (QT6)×List Int×Int:=getO ([],ZG2.Df) (Zhx s n).val
def ZdZ (s:List Int×Int) (n:Int):Bool:=okB (Zhx s n).val
def ZBy:En:=frzE (ZOR ZG2 ZfX ZfY ZA3 (λa=>some (ZdZ a.1 a.2)) (λa=>Zbz a.1 a.2))
theorem ZBz:Za prog 188 (ZOR ZG2 ZfX ZfY ZA3 (λa=>some (ZdZ a.1 a.2)) (λa=>Zbz a.1 a.2)):=
 ZVM (P:=prog) (n:=511) (k:=8) (l:=[(68,Zc3),(70,ZVP)]) (ol:=[(0,ZqH)]) ⟨Za5,ZKU,Tv⟩ Tryz.func188 rfl (by kernel_rfl) Tryz.call188 ⟨Zx8,Tv⟩ (rb:=ZG2) (r:=ZfX) (T:=ZfY) (ts:=ZA3) (t:=λa=>Zhx a.1 a.2) (λa=>by kernel_rfl)
theorem ZGW:Za prog 188 ZBy:=ZCg ZBz
abbrev ZVX:Rs:=Rs.one (So rcRG)
def ZVW (s:List Int×Int):RT (Option (List (QT6)×List Int×Int)):=
 let x1:List (QT6):=Stg.l (newG ZfX ZfY (Zbz s 2).1)++[(0,65535,true,i64.wrap (Int.tdiv (Zd (Zbz s 2).2 3).1 2))]
 .br (!ZdZ s 2||(!Zj (Zbz s 2).2 3||Nat.ble (Le x1) most)) (.br (!ZdZ s 2||Zj (Zbz s 2).2 3) (.br (ZdZ s 2) (Ls ((x1,(Zd (Zbz s 2).2 3).2))) Ln) Ln) Ln
def nMap (s:List Int×Int):List (QT6)×List Int×Int:=getO (ZVX.Df,ZG2.Df) (ZVW s).val
def ZOU (s:List Int×Int):Bool:=okB (ZVW s).val
def Z5z:En:=boxE ZG2 ZAG ZVX (λa=>some (ZOU a.1)) (λa=>nMap a.1)
theorem ZVU:Za prog 123 Z5z:=
 ZcB (P:=prog) (n:=7) (k:=8) (l:=[(68,Zc3),(188,ZBy)]) (ol:=[]) ⟨Za5,ZGW,Tv⟩ Tryz.func123 rfl (by kernel_rfl) Tryz.call123 trivial (rb:=ZG2) (ts:=ZAG) (rs:=ZVX) (t:=λa=>ZVW a.1) (λa=>by kernel_rfl)
def ZG0:LS:={n:=75,Sl:=[(0,.fix (A.loc 0 0)),(5,.tip 0),(6,.code (So Kc))],Bx:=[[.many (R.Pq (R.sl Kc) Kc)]],Sg:=[⟨Ka,5,true⟩]}
def ZdE (a:QT28):RT (Option (Go1 (QT28))):=
 let x1:=Zg (Zd (Zd a.2.1 8).2 4).1 (Le [33,49,1,17])
 let x2:= !x1
 let x3:=Zj (Zd (Zd (Zd a.2.1 8).2 4).2 256).2 4
 let x4:= !x3
 let x5:=Zd (Zd (Zd (Zd a.2.1 8).2 4).2 256).2 4
 let x6:=x5.1
 let x7:=Zg x6 (Le [0,0,1,255])
 let x8:List Int:=a.2.2.1++[R.get Ka [33,49,1,17] (Zd (Zd a.2.1 8).2 4).1,u8.wrap (Zd (Zd (Zd a.2.1 8).2 4).2 256).1,R.get Ka [0,0,1,255] x6]
 let x9:= !(Zd a.2.1 8).1==0||(!Zj (Zd a.2.1 8).2 4||(x2||(!Zj (Zd (Zd a.2.1 8).2 4).2 256||(x4||(!x7||Nat.ble (Le x8) most)))))
 let x10:= !x9
 let x11:= !(Zd a.2.1 8).1==0||(!Zj (Zd a.2.1 8).2 4||(x2||(!Zj (Zd (Zd a.2.1 8).2 4).2 256||(x4||x7))))
 let x12:= !x11
 let x13:= !(Zd a.2.1 8).1==0||(!Zj (Zd a.2.1 8).2 4||(x2||(!Zj (Zd (Zd a.2.1 8).2 4).2 256||x3)))
 let x14:= !x13
 let x15:= !(Zd a.2.1 8).1==0||(!Zj (Zd a.2.1 8).2 4||(x2||Zj (Zd (Zd a.2.1 8).2 4).2 256))
 let x16:= !x15
 let x17:= !(Zd a.2.1 8).1==0||(!Zj (Zd a.2.1 8).2 4||x1)
 let x18:= !x17
 let x19:= !(Zd a.2.1 8).1==0||Zj (Zd a.2.1 8).2 4
 let x20:= !x19
 let x21:List Int:=a.2.2.1++[62,(ZcX (Zd a.2.1 8).2).1,211,u8.wrap (Zd (ZcX (Zd a.2.1 8).2).2 8).1]
 let x22:=(Zd a.2.1 8).1==0||(!(Zd a.2.1 8).1==1||(!Zfs (Zd a.2.1 8).2||(!Zj (ZcX (Zd a.2.1 8).2).2 8||Nat.ble (Le x21) most)))
 let x23:= !x22
 let x24:=(Zd a.2.1 8).1==0||(!(Zd a.2.1 8).1==1||(!Zfs (Zd a.2.1 8).2||Zj (ZcX (Zd a.2.1 8).2).2 8))
 let x25:= !x24
 let x26:=(Zd a.2.1 8).1==0||(!(Zd a.2.1 8).1==1||Zfs (Zd a.2.1 8).2)
 let x27:= !x26
 let x28:=(Zd a.2.1 8).1==0||((Zd a.2.1 8).1==1||(!(Zd a.2.1 8).1==2||Nat.ble (Le (a.2.2.1++[251])) most))
 let x29:= !x28
 let x30:List Int:=a.2.2.1++[62,u8.wrap (i64.wrap (16+(Zd (Zd a.2.1 8).2 16).1)),211,0,62,(ZcX (Zd (Zd a.2.1 8).2 16).2).1,211,1,62,0,211,1]
 let x31:=(Zd a.2.1 8).1==0||((Zd a.2.1 8).1==1||((Zd a.2.1 8).1==2||(!(Zd a.2.1 8).1==3||(!Zj (Zd a.2.1 8).2 16||(!Zfs (Zd (Zd a.2.1 8).2 16).2||Nat.ble (Le x30) most)))))
 let x32:= !x31
 let x33:=(Zd a.2.1 8).1==0||((Zd a.2.1 8).1==1||((Zd a.2.1 8).1==2||(!(Zd a.2.1 8).1==3||(!Zj (Zd a.2.1 8).2 16||Zfs (Zd (Zd a.2.1 8).2 16).2))))
 let x34:= !x33
 let x35:=(Zd a.2.1 8).1==0||((Zd a.2.1 8).1==1||((Zd a.2.1 8).1==2||(!(Zd a.2.1 8).1==3||Zj (Zd a.2.1 8).2 16)))
 let x36:= !x35
 let x37:= !Zj (Zd (Zat (Zd a.2.1 8).2).2 64).2 4
 let x38:Int:=(Zd (Zd (Zat (Zd a.2.1 8).2).2 64).2 4).1
 let x39:=Zg x38 (Le [0,0,1,255])
 let x40:List Int:=a.2.2.1++[(Zat (Zd a.2.1 8).2).1,u8.wrap (Zd (Zat (Zd a.2.1 8).2).2 64).1,R.get Ka [0,0,1,255] x38]
 let x41:=(Zd a.2.1 8).1==0||((Zd a.2.1 8).1==1||((Zd a.2.1 8).1==2||((Zd a.2.1 8).1==3||(!Zcy (Zd a.2.1 8).2||(!Zj (Zat (Zd a.2.1 8).2).2 64||(x37||(!x39||Nat.ble (Le x40) most)))))))
 let x42:= !x41
 let x43:=(Zd a.2.1 8).1==0||((Zd a.2.1 8).1==1||((Zd a.2.1 8).1==2||((Zd a.2.1 8).1==3||(!Zcy (Zd a.2.1 8).2||(!Zj (Zat (Zd a.2.1 8).2).2 64||(x37||x39))))))
 let x44:= !x43
 let x45:=(Zd a.2.1 8).1==0||((Zd a.2.1 8).1==1||((Zd a.2.1 8).1==2||((Zd a.2.1 8).1==3||(!Zcy (Zd a.2.1 8).2||(!Zj (Zat (Zd a.2.1 8).2).2 64||Zj (Zd (Zat (Zd a.2.1 8).2).2 64).2 4)))))
 let x46:= !x45
 let x47:=(Zd a.2.1 8).1==0||((Zd a.2.1 8).1==1||((Zd a.2.1 8).1==2||((Zd a.2.1 8).1==3||(!Zcy (Zd a.2.1 8).2||Zj (Zat (Zd a.2.1 8).2).2 64))))
 let x48:=x10||(x12||(x14||(x16||(x18||(x20||(x23||(x25||(x27||(x29||(x32||(x34||(x36||(x42||(x44||(x46||(!x47||((Zd a.2.1 8).1==0||((Zd a.2.1 8).1==1||((Zd a.2.1 8).1==2||((Zd a.2.1 8).1==3||Zcy (Zd a.2.1 8).2))))))))))))))))))))
 let x49:= !x48
 let x50:=x10||(x12||(x14||(x16||(x18||(x20||(x23||(x25||(x27||(x29||(x32||(x34||(x36||(x42||(x44||(x46||x47)))))))))))))))
 let x51:= !x50
 let x52:=x10||(x12||(x14||(x16||(x18||(x20||(x23||(x25||(x27||(x29||(x32||(x34||(x36||(x42||(x44||x45))))))))))))))
 let x53:= !x52
 let x54:=x10||(x12||(x14||(x16||(x18||(x20||(x23||(x25||(x27||(x29||(x32||(x34||(x36||(x42||x43)))))))))))))
 let x55:= !x54
 let x56:=x10||(x12||(x14||(x16||(x18||(x20||(x23||(x25||(x27||(x29||(x32||(x34||(x36||x41))))))))))))
 let x57:= !x56
 let x58:=x10||(x12||(x14||(x16||(x18||(x20||(x23||(x25||(x27||(x29||(x32||(x34||x35)))))))))))
 let x59:= !x58
 let x60:=x10||(x12||(x14||(x16||(x18||(x20||(x23||(x25||(x27||(x29||(x32||x33))))))))))
 let x61:= !x60
 let x62:=x10||(x12||(x14||(x16||(x18||(x20||(x23||(x25||(x27||(x29||x31)))))))))
 let x63:= !x62
 let x64:=x10||(x12||(x14||(x16||(x18||(x20||(x23||(x25||(x27||x28))))))))
 let x65:= !x64
 let x66:=x10||(x12||(x14||(x16||(x18||(x20||(x23||(x25||x26)))))))
 let x67:= !x66
 let x68:=x10||(x12||(x14||(x16||(x18||(x20||(x23||x24))))))
 let x69:= !x68
 let x70:=x10||(x12||(x14||(x16||(x18||(x20||x22)))))
 let x71:= !x70
 let x72:=x10||(x12||(x14||(x16||(x18||x19))))
 let x73:= !x72
 let x74:=x10||(x12||(x14||(x16||x17)))
 let x75:= !x74
 let x76:=x10||(x12||(x14||x15))
 let x77:= !x76
 let x78:=x10||(x12||x13)
 let x79:= !x78
 let x80:=x10||x11
 let x81:List Int×Int:=(Zd (Zd (Zat (Zd a.2.1 8).2).2 64).2 4).2
 .br (decide (a.1>0)) (.br (!Zj a.2.1 8||(x49||(x51||(x53||(x55||(x57||(x59||(x61||(x63||(x65||(x67||(x69||(x71||(x73||(x75||(x77||(x79||(!x80||x9)))))))))))))))))) (.br (!Zj a.2.1 8||(x49||(x51||(x53||(x55||(x57||(x59||(x61||(x63||(x65||(x67||(x69||(x71||(x73||(x75||(x77||(x79||x80))))))))))))))))) (.br (!Zj a.2.1 8||(x49||(x51||(x53||(x55||(x57||(x59||(x61||(x63||(x65||(x67||(x69||(x71||(x73||(x75||(x77||x78)))))))))))))))) (.br (!Zj a.2.1 8||(x49||(x51||(x53||(x55||(x57||(x59||(x61||(x63||(x65||(x67||(x69||(x71||(x73||(x75||x76))))))))))))))) (.br (!Zj a.2.1 8||(x49||(x51||(x53||(x55||(x57||(x59||(x61||(x63||(x65||(x67||(x69||(x71||(x73||x74)))))))))))))) (.br (!Zj a.2.1 8||(x49||(x51||(x53||(x55||(x57||(x59||(x61||(x63||(x65||(x67||(x69||(x71||x72))))))))))))) (.br (!Zj a.2.1 8||(x49||(x51||(x53||(x55||(x57||(x59||(x61||(x63||(x65||(x67||(x69||x70)))))))))))) (.br (!Zj a.2.1 8||(x49||(x51||(x53||(x55||(x57||(x59||(x61||(x63||(x65||(x67||x68))))))))))) (.br (!Zj a.2.1 8||(x49||(x51||(x53||(x55||(x57||(x59||(x61||(x63||(x65||x66)))))))))) (.br (!Zj a.2.1 8||(x49||(x51||(x53||(x55||(x57||(x59||(x61||(x63||x64))))))))) (.br (!Zj a.2.1 8||(x49||(x51||(x53||(x55||(x57||(x59||(x61||x62)))))))) (.br (!Zj a.2.1 8||(x49||(x51||(x53||(x55||(x57||(x59||x60))))))) (.br (!Zj a.2.1 8||(x49||(x51||(x53||(x55||(x57||x58)))))) (.br (!Zj a.2.1 8||(x49||(x51||(x53||(x55||x56))))) (.br (!Zj a.2.1 8||(x49||(x51||(x53||x54)))) (.br (!Zj a.2.1 8||(x49||(x51||x52))) (.br (!Zj a.2.1 8||(x49||x50)) (.br (!Zj a.2.1 8||x48) (.br (Zj a.2.1 8) (.br ((Zd a.2.1 8).1==0) (Ls (Go1.cont (i64.wrap (a.1-1),x5.2,x8,PUnit.unit))) (.br ((Zd a.2.1 8).1==1) (Ls (Go1.cont (i64.wrap (a.1-1),(Zd (ZcX (Zd a.2.1 8).2).2 8).2,x21,PUnit.unit))) (.br ((Zd a.2.1 8).1==2) (Ls (Go1.cont (i64.wrap (a.1-1),(Zd a.2.1 8).2,a.2.2.1++[251],PUnit.unit))) (Ls (Go1.cont (i64.wrap (a.1-1),(bif (Zd a.2.1 8).1==3 then (ZcX (Zd (Zd a.2.1 8).2 16).2).2.1 else x81.1,bif (Zd a.2.1 8).1==3 then (ZcX (Zd (Zd a.2.1 8).2 16).2).2.2 else x81.2),bif (Zd a.2.1 8).1==3 then x30 else x40,PUnit.unit)))))) Ln) Ln) Ln) Ln) Ln) Ln) Ln) Ln) Ln) Ln) Ln) Ln) Ln) Ln) Ln) Ln) Ln) Ln) Ln) (Ls (Go1.brk (a.1,a.2.1,a.2.2.1,PUnit.unit)))
def ZqJ:Ora:=Zbn false ZG0 ZdE (λa=>400)
theorem Zx9:ZaU (envX prog [(68,Zc3),(71,ZtH),(119,Zic)] [] 9511883889056940159 8) (.block 0 (.loop (Z7 Tryz.f124.body 0))) ZqJ:=
 loopP ⟨Za5,Zka,ZfZ,Tv⟩
def Zhy (s:List Int×Int) (n:Int):RT (Option (List Int×List Int×Int)):=
 let x1:QT28:=((Zd s (i64.wrap (n+1))).1,(Zd s (i64.wrap (n+1))).2,[],())
 let x2:=runF false ZdE (λa=>400) x1
 let x3:(List Int×Int)×List Int×PUnit:=(getO (false,x1) x2).2.2
 .br (Zj s (i64.wrap (n+1))) (.br (okB x2) (Ls ((x3.2.1,x3.1))) Ln) Ln
def Zcx (s:List Int×Int) (n:Int):List Int×List Int×Int:=getO (Znt.Df,ZG2.Df) (Zhy s n).val
def Zhz (s:List Int×Int) (n:Int):Bool:=okB (Zhy s n).val
def ZqK:En:=boxE ZG2 ZA3 Znt (λa=>some (Zhz a.1 a.2)) (λa=>Zcx a.1 a.2)
theorem ZqI:Za prog 124 ZqK:=
 ZcB (P:=prog) (n:=9511883889056940159) (k:=8) (l:=[(68,Zc3),(71,ZtH),(119,Zic)]) (ol:=[(0,ZqJ)]) ⟨Za5,Zka,ZfZ,Tv⟩ Tryz.func124 rfl (by kernel_rfl) Tryz.call124 ⟨Zx9,Tv⟩ (rb:=ZG2) (ts:=ZA3) (rs:=Znt) (t:=λa=>Zhy a.1 a.2) (λa=>by kernel_rfl)
abbrev Zyc:Rs:=Rs.one (Sh.agg (R.Pq Kc (R.Pq rcRG (R.Pq Kc (R.Pq Ka (R.Pq Ka (R.Pq R.bool rcCE)))))))
def ZV6:LS:={n:=50,Sl:=[(0,.fix (A.loc 0 0)),(2,.fix (A.loc 1 0)),(3,.fix (A.loc 2 0)),(4,.tip 0),(5,.code (So Kc))],Bx:=[[.many (R.Pq (R.sl Kc) Kc)],[.many (R.Pq Kc (R.Pq rcRG (R.Pq Kc (R.Pq Ka (R.Pq Ka (R.Pq R.bool rcCE))))))],[.many (R.Pq Kc (R.Pq rcRG (R.Pq Kc (R.Pq Ka (R.Pq Ka (R.Pq R.bool rcCE))))))]],Sg:=[⟨R.Pq Kb Ka,75,true⟩]}
def Zf1 (a:QT19):RT (Option (Go1 (QT19))):=
 let x1:=Zg (Zd a.2.1 6).1 (Le [36,60,52,44,56,32])
 let x2:= !x1
 let x3:List Int:=[(Zat (Zd a.2.1 6).2).1,251,201]
 let x4:=smB x3
 let x5:List (Int×Int):=a.2.2.2.2.1++Stg.l (newG Zc6 Zur (Zr2 (u16.wrap (R.get Kc [36,60,52,44,56,32] (Zd a.2.1 6).1)) x3))
 let x6:= !Zj a.2.1 6||(x2||(!Zcy (Zd a.2.1 6).2||(!x4||Nat.ble (Le x5) most)))
 let x7:= !x6
 let x8:= !Zj a.2.1 6||(x2||(!Zcy (Zd a.2.1 6).2||x4))
 let x9:= !x8
 let x10:= !Zj a.2.1 6||(x2||Zcy (Zd a.2.1 6).2)
 let x11:= !x10
 let x12:= !Zj a.2.1 6||x1
 .br (decide (a.1>0)) (.br (x7||(x9||(x11||(!x12||Zj a.2.1 6)))) (.br (x7||(x9||(x11||x12))) (.br (x7||(x9||x10)) (.br (x7||x8) (.br (x6) (Ls (Go1.cont (i64.wrap (a.1-1),(Zat (Zd a.2.1 6).2).2,a.2.2.1,a.2.2.2.1,x5,PUnit.unit))) Ln) Ln) Ln) Ln) Ln) (Ls (Go1.brk (a.1,a.2.1,a.2.2.1,a.2.2.2.1,a.2.2.2.2.1,PUnit.unit)))
def ZBF:Ora:=Zbn false ZV6 Zf1 (λa=>400)
theorem ZG9:ZaU (envX prog [(59,Zvw),(68,Zc3),(71,ZtH),(93,Zvk),(119,Zic),(122,ZV2),(123,Z5z),(124,ZqK)] [] 63 8) (.block 0 (.loop (Z7 Tryz.f66.body 0))) ZBF:=
 loopP ⟨Zs9,Za5,Zka,Zol,ZfZ,ZK0,ZVU,ZqI,Tv⟩
def ZqT (s:List Int×Int):RT (Option (BRDT×List Int×Int)):=
 let x1:=(Zd (Zd (Zd (nMap (Za8 s).2).2 3).2 4).2 6).1==0
 let x2:= !x1
 let x3:List Int×Int:=(Zd (Zd (Zd (nMap (Za8 s).2).2 3).2 4).2 6).2
 let x4:=Zfs x3
 let x5:=ZcX x3
 let x6:=x5.2
 let x7:=ZcX x6
 let x8:=x7.2
 let x9:List Int×Int:=(bif x1 then x8.1 else x3.1,bif x1 then x8.2 else x3.2)
 let x10:=Zhz x9 12
 let x11:=Zcx x9 12
 let x12:=x11.1
 let x13:=x11.2
 let x14:=Zd x13 4
 let x15:QT19:=(x14.1,x14.2,(0,[],0,0,0,false,[]),((Za8 s).1,(nMap (Za8 s).2).1,(Zd (nMap (Za8 s).2).2 3).1,bif x1 then x5.1 else 0,bif x1 then x7.1 else 4,(Zd (Zd (nMap (Za8 s).2).2 3).2 4).1==0,[]),Stg.l (newG Zc6 Zur (Zr2 0 x12)),())
 let x16:=runF false Zf1 (λa=>400) x15
 let x17:(List Int×Int)×BRDT×BRDT×List (Int×Int)×PUnit:=(getO (false,x15) x16).2.2
 let x18:=x17.2.2
 let x19:=x18.2.1
 let x20:=x18.1
 let x21:=x20.2
 let x22:=x21.2
 let x23:=x22.2
 let x24:=x23.2
 .br (!ZqR s||(!ZOU (Za8 s).2||(!Zj (nMap (Za8 s).2).2 3||Zj (Zd (nMap (Za8 s).2).2 3).2 4))) (.br (!ZqR s||(!ZOU (Za8 s).2||Zj (nMap (Za8 s).2).2 3)) (.br (!ZqR s||ZOU (Za8 s).2) (.br (ZqR s) (.br (Zj (Zd (Zd (nMap (Za8 s).2).2 3).2 4).2 6) (.br (x2||(!x4||Zfs x6)) (.br (x2||x4) (.br (!x10||smB x12) (.br (x10) (.br (Zj x13 4) (.br (okB x16) (.br (smC x19) (Ls (((x20.1,x21.1,x22.1,x23.1,x24.1,x24.2.1,Cells.normX x19),x17.1))) Ln) Ln) Ln) Ln) Ln) Ln) Ln) Ln) Ln) Ln) Ln) Ln
def Zde (s:List Int×Int):BRDT×List Int×Int:=getO (Zyc.Df,ZG2.Df) (ZqT s).val
def ZqU (s:List Int×Int):Bool:=okB (ZqT s).val
def ZV7:En:=boxE ZG2 ZAG Zyc (λa=>some (ZqU a.1)) (λa=>Zde a.1)
theorem ZV4:Za prog 66 ZV7:=
 ZcB (P:=prog) (n:=63) (k:=8) (l:=[(59,Zvw),(68,Zc3),(71,ZtH),(93,Zvk),(119,Zic),(122,ZV2),(123,Z5z),(124,ZqK)]) (ol:=[(0,ZBF)]) ⟨Zs9,Za5,Zka,Zol,ZfZ,ZK0,ZVU,ZqI,Tv⟩ Tryz.func66 rfl (by kernel_rfl) Tryz.call66 ⟨ZG9,Tv⟩ (rb:=ZG2) (ts:=ZAG) (rs:=Zyc) (t:=λa=>ZqT a.1) (λa=>by kernel_rfl)
def ZqQ (s:List Int×Int):RT (Option (INPT×List Int×Int)):=
 let x1:=decide ((Zd s 64).1<30)||(decide ((Zd s 64).1<36)||(decide ((Zd s 64).1<40)||(!decide ((Zd s 64).1<46)||Zj (Zd s 64).2 256)))
 let x2:= !x1
 let x3:=decide ((Zd s 64).1<30)||(decide ((Zd s 64).1<36)||(decide ((Zd s 64).1<40)||(decide ((Zd s 64).1<46)||(decide ((Zd s 64).1<50)||(decide ((Zd s 64).1<53)||(decide ((Zd s 64).1<55)||((Zd s 64).1==55||(!decide ((Zd s 64).1<60)||Zcy (Zd s 64).2))))))))
 let x4:= !x3
 let x5:= !Zav (ZE (ZE (ZE (ZE (Zd s 64).2).2).2).2).2
 let x6:List Int×Int:=(ZE (ZE (ZE (ZE (ZE (Zd s 64).2).2).2).2).2).2
 let x7:=Zj x6 256
 let x8:=Zd x6 256
 let x9:=x8.2
 let x10:=decide ((Zd s 64).1<30)||(decide ((Zd s 64).1<36)||(decide ((Zd s 64).1<40)||(decide ((Zd s 64).1<46)||(decide ((Zd s 64).1<50)||(decide ((Zd s 64).1<53)||(decide ((Zd s 64).1<55)||((Zd s 64).1==55||(decide ((Zd s 64).1<60)||(!Zav (Zd s 64).2||(!Zav (ZE (Zd s 64).2).2||(!Zav (ZE (ZE (Zd s 64).2).2).2||(!Zav (ZE (ZE (ZE (Zd s 64).2).2).2).2||(x5||(!x7||Zj x9 256))))))))))))))
 let x11:= !x10
 let x12:=decide ((Zd s 64).1<30)||(decide ((Zd s 64).1<36)||(decide ((Zd s 64).1<40)||(decide ((Zd s 64).1<46)||(decide ((Zd s 64).1<50)||(decide ((Zd s 64).1<53)||(decide ((Zd s 64).1<55)||((Zd s 64).1==55||(decide ((Zd s 64).1<60)||(!Zav (Zd s 64).2||(!Zav (ZE (Zd s 64).2).2||(!Zav (ZE (ZE (Zd s 64).2).2).2||(!Zav (ZE (ZE (ZE (Zd s 64).2).2).2).2||(x5||x7)))))))))))))
 let x13:= !x12
 let x14:=decide ((Zd s 64).1<30)||(decide ((Zd s 64).1<36)||(decide ((Zd s 64).1<40)||(decide ((Zd s 64).1<46)||(decide ((Zd s 64).1<50)||(decide ((Zd s 64).1<53)||(decide ((Zd s 64).1<55)||((Zd s 64).1==55||(decide ((Zd s 64).1<60)||(!Zav (Zd s 64).2||(!Zav (ZE (Zd s 64).2).2||(!Zav (ZE (ZE (Zd s 64).2).2).2||(!Zav (ZE (ZE (ZE (Zd s 64).2).2).2).2||Zav (ZE (ZE (ZE (ZE (Zd s 64).2).2).2).2).2))))))))))))
 let x15:= !x14
 let x16:=decide ((Zd s 64).1<30)||(decide ((Zd s 64).1<36)||(decide ((Zd s 64).1<40)||(decide ((Zd s 64).1<46)||(decide ((Zd s 64).1<50)||(decide ((Zd s 64).1<53)||(decide ((Zd s 64).1<55)||((Zd s 64).1==55||(decide ((Zd s 64).1<60)||(!Zav (Zd s 64).2||(!Zav (ZE (Zd s 64).2).2||(!Zav (ZE (ZE (Zd s 64).2).2).2||Zav (ZE (ZE (ZE (Zd s 64).2).2).2).2)))))))))))
 let x17:= !x16
 let x18:=decide ((Zd s 64).1<30)||(decide ((Zd s 64).1<36)||(decide ((Zd s 64).1<40)||(decide ((Zd s 64).1<46)||(decide ((Zd s 64).1<50)||(decide ((Zd s 64).1<53)||(decide ((Zd s 64).1<55)||((Zd s 64).1==55||(decide ((Zd s 64).1<60)||(!Zav (Zd s 64).2||(!Zav (ZE (Zd s 64).2).2||Zav (ZE (ZE (Zd s 64).2).2).2))))))))))
 let x19:= !x18
 let x20:=decide ((Zd s 64).1<30)||(decide ((Zd s 64).1<36)||(decide ((Zd s 64).1<40)||(decide ((Zd s 64).1<46)||(decide ((Zd s 64).1<50)||(decide ((Zd s 64).1<53)||(decide ((Zd s 64).1<55)||((Zd s 64).1==55||(decide ((Zd s 64).1<60)||(!Zav (Zd s 64).2||Zav (ZE (Zd s 64).2).2)))))))))
 let x21:=Zd x9 256
 let x22:=x21.2
 .br (Zj s 64) (.br (x2||(x4||(x11||(x13||(x15||(x17||(x19||(!x20||(decide ((Zd s 64).1<30)||(decide ((Zd s 64).1<36)||(decide ((Zd s 64).1<40)||(decide ((Zd s 64).1<46)||(decide ((Zd s 64).1<50)||(decide ((Zd s 64).1<53)||(decide ((Zd s 64).1<55)||((Zd s 64).1==55||(decide ((Zd s 64).1<60)||Zav (Zd s 64).2))))))))))))))))) (.br (x2||(x4||(x11||(x13||(x15||(x17||(x19||x20))))))) (.br (x2||(x4||(x11||(x13||(x15||(x17||x18)))))) (.br (x2||(x4||(x11||(x13||(x15||x16))))) (.br (x2||(x4||(x11||(x13||x14)))) (.br (x2||(x4||(x11||x12))) (.br (x2||(x4||x10)) (.br (x2||x3) (.br (x1) (Ls (((bif decide ((Zd s 64).1<30) then ZP.1 else !decide ((Zd s 64).1<36)&&bif decide ((Zd s 64).1<40) then ZP.1 else bif decide ((Zd s 64).1<46) then ZP.1 else bif decide ((Zd s 64).1<50) then ZP.1 else bif decide ((Zd s 64).1<53) then ZP.1 else bif decide ((Zd s 64).1<55) then ZP.1 else bif (Zd s 64).1==55 then ZP.1 else bif decide ((Zd s 64).1<60) then ZP.1 else (ZE (Zd s 64).2).1,bif decide ((Zd s 64).1<30) then ZP.2.1 else bif decide ((Zd s 64).1<36) then ZP.2.1 else decide ((Zd s 64).1<40)||bif decide ((Zd s 64).1<46) then ZP.2.1 else bif decide ((Zd s 64).1<50) then ZP.2.1 else bif decide ((Zd s 64).1<53) then ZP.2.1 else bif decide ((Zd s 64).1<55) then ZP.2.1 else bif (Zd s 64).1==55 then ZP.2.1 else bif decide ((Zd s 64).1<60) then ZP.2.1 else (ZE (ZE (Zd s 64).2).2).1,bif decide ((Zd s 64).1<30) then ZP.2.2.1 else bif decide ((Zd s 64).1<36) then ZP.2.2.1 else bif decide ((Zd s 64).1<40) then ZP.2.2.1 else bif decide ((Zd s 64).1<46) then ZP.2.2.1 else bif decide ((Zd s 64).1<50) then ZP.2.2.1 else bif decide ((Zd s 64).1<53) then ZP.2.2.1 else bif decide ((Zd s 64).1<55) then ZP.2.2.1 else (Zd s 64).1==55||decide ((Zd s 64).1<60)&&ZP.2.2.1,bif decide ((Zd s 64).1<30) then ZP.2.2.2.1 else bif decide ((Zd s 64).1<36) then ZP.2.2.2.1 else bif decide ((Zd s 64).1<40) then ZP.2.2.2.1 else bif decide ((Zd s 64).1<46) then ZP.2.2.2.1 else bif decide ((Zd s 64).1<50) then ZP.2.2.2.1 else bif decide ((Zd s 64).1<53) then (Zd s 64).1==51 else bif decide ((Zd s 64).1<55) then ZP.2.2.2.1 else bif (Zd s 64).1==55 then ZP.2.2.2.1 else bif decide ((Zd s 64).1<60) then ZP.2.2.2.1 else (ZE (ZE (ZE (Zd s 64).2).2).2).1,bif decide ((Zd s 64).1<30) then ZP.2.2.2.2.1 else bif decide ((Zd s 64).1<36) then ZP.2.2.2.2.1 else bif decide ((Zd s 64).1<40) then ZP.2.2.2.2.1 else bif decide ((Zd s 64).1<46) then ZP.2.2.2.2.1 else bif decide ((Zd s 64).1<50) then ZP.2.2.2.2.1 else bif decide ((Zd s 64).1<53) then ZP.2.2.2.2.1 else decide ((Zd s 64).1<55)||bif (Zd s 64).1==55 then ZP.2.2.2.2.1 else decide ((Zd s 64).1<60)&&ZP.2.2.2.2.1,bif decide ((Zd s 64).1<30) then ZP.2.2.2.2.2.1 else bif decide ((Zd s 64).1<36) then ZP.2.2.2.2.2.1 else bif decide ((Zd s 64).1<40) then ZP.2.2.2.2.2.1 else bif decide ((Zd s 64).1<46) then ZP.2.2.2.2.2.1 else bif decide ((Zd s 64).1<50) then Int.tmod (Zd s 64).1 2==0 else bif decide ((Zd s 64).1<53) then ZP.2.2.2.2.2.1 else bif decide ((Zd s 64).1<55) then ZP.2.2.2.2.2.1 else bif (Zd s 64).1==55 then ZP.2.2.2.2.2.1 else bif decide ((Zd s 64).1<60) then ZP.2.2.2.2.2.1 else (ZE (ZE (ZE (ZE (Zd s 64).2).2).2).2).1,bif decide ((Zd s 64).1<30) then ZP.2.2.2.2.2.2.1 else bif decide ((Zd s 64).1<36) then ZP.2.2.2.2.2.2.1 else bif decide ((Zd s 64).1<40) then ZP.2.2.2.2.2.2.1 else bif decide ((Zd s 64).1<46) then ZP.2.2.2.2.2.2.1 else bif decide ((Zd s 64).1<50) then Int.tmod (Zd s 64).1 2==1 else bif decide ((Zd s 64).1<53) then ZP.2.2.2.2.2.2.1 else bif decide ((Zd s 64).1<55) then ZP.2.2.2.2.2.2.1 else bif (Zd s 64).1==55 then ZP.2.2.2.2.2.2.1 else bif decide ((Zd s 64).1<60) then ZP.2.2.2.2.2.2.1 else (ZE (ZE (ZE (ZE (ZE (Zd s 64).2).2).2).2).2).1,bif decide ((Zd s 64).1<30) then ZP.2.2.2.2.2.2.2.1 else bif decide ((Zd s 64).1<36) then ZP.2.2.2.2.2.2.2.1 else bif decide ((Zd s 64).1<40) then ZP.2.2.2.2.2.2.2.1 else bif decide ((Zd s 64).1<46) then ZP.2.2.2.2.2.2.2.1 else bif decide ((Zd s 64).1<50) then ZP.2.2.2.2.2.2.2.1 else decide ((Zd s 64).1<53)||bif decide ((Zd s 64).1<55) then ZP.2.2.2.2.2.2.2.1 else bif (Zd s 64).1==55 then ZP.2.2.2.2.2.2.2.1 else decide ((Zd s 64).1<60)&&ZP.2.2.2.2.2.2.2.1,bif decide ((Zd s 64).1<30) then ZP.2.2.2.2.2.2.2.2.1 else bif decide ((Zd s 64).1<36) then ZP.2.2.2.2.2.2.2.2.1 else bif decide ((Zd s 64).1<40) then ZP.2.2.2.2.2.2.2.2.1 else bif decide ((Zd s 64).1<46) then u8.wrap (Zd (Zd s 64).2 256).1 else bif decide ((Zd s 64).1<50) then ZP.2.2.2.2.2.2.2.2.1 else bif decide ((Zd s 64).1<53) then ZP.2.2.2.2.2.2.2.2.1 else bif decide ((Zd s 64).1<55) then ZP.2.2.2.2.2.2.2.2.1 else bif (Zd s 64).1==55 then ZP.2.2.2.2.2.2.2.2.1 else bif decide ((Zd s 64).1<60) then 1 else u8.wrap x8.1,bif decide ((Zd s 64).1<30) then u8.wrap (Zd s 64).1 else bif decide ((Zd s 64).1<36) then ZP.2.2.2.2.2.2.2.2.2 else bif decide ((Zd s 64).1<40) then ZP.2.2.2.2.2.2.2.2.2 else bif decide ((Zd s 64).1<46) then ZP.2.2.2.2.2.2.2.2.2 else bif decide ((Zd s 64).1<50) then ZP.2.2.2.2.2.2.2.2.2 else bif decide ((Zd s 64).1<53) then ZP.2.2.2.2.2.2.2.2.2 else bif decide ((Zd s 64).1<55) then ZP.2.2.2.2.2.2.2.2.2 else bif (Zd s 64).1==55 then ZP.2.2.2.2.2.2.2.2.2 else bif decide ((Zd s 64).1<60) then (Zat (Zd s 64).2).1 else u8.wrap x21.1),bif decide ((Zd s 64).1<30) then (Zd s 64).2.1 else bif decide ((Zd s 64).1<36) then (Zd s 64).2.1 else bif decide ((Zd s 64).1<40) then (Zd s 64).2.1 else bif decide ((Zd s 64).1<46) then (Zd (Zd s 64).2 256).2.1 else bif decide ((Zd s 64).1<50) then (Zd s 64).2.1 else bif decide ((Zd s 64).1<53) then (Zd s 64).2.1 else bif decide ((Zd s 64).1<55) then (Zd s 64).2.1 else bif (Zd s 64).1==55 then (Zd s 64).2.1 else bif decide ((Zd s 64).1<60) then (Zat (Zd s 64).2).2.1 else x22.1,bif decide ((Zd s 64).1<30) then (Zd s 64).2.2 else bif decide ((Zd s 64).1<36) then (Zd s 64).2.2 else bif decide ((Zd s 64).1<40) then (Zd s 64).2.2 else bif decide ((Zd s 64).1<46) then (Zd (Zd s 64).2 256).2.2 else bif decide ((Zd s 64).1<50) then (Zd s 64).2.2 else bif decide ((Zd s 64).1<53) then (Zd s 64).2.2 else bif decide ((Zd s 64).1<55) then (Zd s 64).2.2 else bif (Zd s 64).1==55 then (Zd s 64).2.2 else bif decide ((Zd s 64).1<60) then (Zat (Zd s 64).2).2.2 else x22.2))) Ln) Ln) Ln) Ln) Ln) Ln) Ln) Ln) Ln) Ln
def ZcC (s:List Int×Int):INPT×List Int×Int:=getO (ZP0.Df,ZG2.Df) (ZqQ s).val
def ZhA (s:List Int×Int):Bool:=okB (ZqQ s).val
def Zlw:En:=boxE ZG2 ZAG ZP0 (λa=>some (ZhA a.1)) (λa=>ZcC a.1)
theorem Zj9:Za prog 62 Zlw:=
 ZcB (P:=prog) (n:=5036105318265824215071) (k:=8) (l:=[(68,Zc3),(69,ZV0),(118,ZHZ),(119,Zic)]) (ol:=[]) ⟨Za5,ZKY,Zt8,ZfZ,Tv⟩ Tryz.func62 rfl (by kernel_rfl) Tryz.call62 trivial (rb:=ZG2) (ts:=ZAG) (rs:=ZP0) (t:=λa=>ZqQ a.1) (λa=>by kernel_rfl)
def ZOY:LS:={n:=39,Sl:=[(0,.fix (A.loc 0 0)),(5,.tip 0),(6,.code (So Kc)),(7,.fix (A.loc 1 0)),(8,.code (So Kc))],Bx:=[[.many (R.Pq (R.sl Kc) Kc)],[.many Zb8]],Sg:=[⟨Zb8,122,true⟩]}
def Zet (a:QT18):RT (Option (Go1 (QT18))):=
 let x1:List INPT:=a.2.2.2.2.1++[a.2.2.2.1]
 .br (decide (a.2.1>=0)&&decide (iN (Le a.2.2.2.2.1)<a.1)) (.br (Nat.ble (Le x1) most) (Ls (Go1.cont (a.1,i64.wrap (a.2.1-1),a.2.2.1,a.2.2.2.1,x1,PUnit.unit))) Ln) (Ls (Go1.brk (a.1,a.2.1,a.2.2.1,a.2.2.2.1,a.2.2.2.2.1,PUnit.unit)))
def Zid:Ora:=Zbn false ZOY Zet (λa=>400)
theorem Zmb:ZaU (envX prog [(62,Zlw),(68,Zc3)] [] 511 8) (.block 2 (.loop (Z7 Tryz.f125.body 2))) Zid:=
 loopP ⟨Zj9,Za5,Tv⟩
def ZOX:LS:={n:=39,Sl:=[(0,.fix (A.loc 0 0)),(5,.tip 0),(6,.code (So Kc))],Bx:=[[.many (R.Pq (R.sl Kc) Kc)]],Sg:=[⟨Zb8,122,true⟩]}
def Zf0 (a:QT27):RT (Option (Go1 (QT27))):=
 let x1:= !Zj (ZcC a.2.1).2 4||Zj (Zd (ZcC a.2.1).2 4).2 5
 let x2:= !x1
 let x3:QT18:=(a.1,i64.wrap ((Zd (ZcC a.2.1).2 4).1*(Zd (Zd (ZcC a.2.1).2 4).2 5).1),(Zd (Zd (ZcC a.2.1).2 4).2 5).2,(ZcC a.2.1).1,a.2.2.1,())
 let x4:=runF false Zet (λa_1=>400) x3
 let x5:QT18:=(getO (false,x3) x4).2
 let x6:=x5.2.2
 .br (decide (iN (Le a.2.2.1)<a.1)) (.br (!ZhA a.2.1||(x2||(!Zj (ZcC a.2.1).2 4||okB x4))) (.br (!ZhA a.2.1||(x2||Zj (ZcC a.2.1).2 4)) (.br (!ZhA a.2.1||x1) (.br (ZhA a.2.1) (Ls (Go1.cont (x5.1,x6.1,x6.2.2.1,PUnit.unit))) Ln) Ln) Ln) Ln) (Ls (Go1.brk (a.1,a.2.1,a.2.2.1,PUnit.unit)))
def ZtG:Ora:=Zbn false ZOX Zf0 (λa=>400)
theorem ZBC:ZaU (envX prog [(62,Zlw),(68,Zc3)] [(2,Zid)] 511 8) (.block 0 (.loop (Z7 Tryz.f125.body 0))) ZtG:=
 Zke (Zb1 (l:=[(62,Zlw),(68,Zc3)]) ⟨Zj9,Za5,Tv⟩ [(2,Zid)] 511 8) (Zi1 (by kernel_rfl) (by kernel_rfl) ⟨Zmb,Tv⟩) (λa=>by kernel_rfl)
def Zj7 (s:List Int×Int) (n:Int):RT (Option (List INPT×List Int×Int)):=
 let x1:QT27:=((Zd s (i64.wrap (n+1))).1,(Zd s (i64.wrap (n+1))).2,[],())
 let x2:=runF false Zf0 (λa=>400) x1
 let x3:(List Int×Int)×List INPT×PUnit:=(getO (false,x1) x2).2.2
 .br (Zj s (i64.wrap (n+1))) (.br (okB x2) (Ls ((x3.2.1,x3.1))) Ln) Ln
def Zaj (s:List Int×Int) (n:Int):List INPT×List Int×Int:=getO (Znv.Df,ZG2.Df) (Zj7 s n).val
def Zj8 (s:List Int×Int) (n:Int):Bool:=okB (Zj7 s n).val
def ZKW:En:=boxE ZG2 ZA3 Znv (λa=>some (Zj8 a.1 a.2)) (λa=>Zaj a.1 a.2)
theorem ZOV:Za prog 125 ZKW:=
 ZcB (P:=prog) (n:=511) (k:=8) (l:=[(62,Zlw),(68,Zc3)]) (ol:=[(2,Zid),(0,ZtG)]) ⟨Zj9,Za5,Tv⟩ Tryz.func125 rfl (by kernel_rfl) Tryz.call125 ⟨Zmb,ZBC,Tv⟩ (rb:=ZG2) (ts:=ZA3) (rs:=Znv) (t:=λa=>Zj7 a.1 a.2) (λa=>by kernel_rfl)
variable {s:List Int×Int} {k:Int}
theorem NB.up {j:Int} (h:NB s k) (hj:k<=j):NB s j:=⟨h.1,by have:=h.2;omega⟩
theorem ZdT (h:NB s k) (hk:k<=1000000):Zav s=true/\NB (ZE s).2 (k+1):=by obtain⟨c1,b,_⟩:=Zp h hk 2 (by decide) (by decide);simp only[Zav,ZE,ZKZ,RT.val,c1,Yb,okB,getO];exact⟨trivial,b⟩
theorem ZaF {a b:Nat} (h:a<=b):Nat.ble a b=true:=by rw[Yz];exact h
theorem ZGX (h:NB s k) (hk:k<=500000) (n:Nat) (hn:n<=100):
  ZdZ s (n:Int)=true/\NB (Zbz s (n:Int)).2 (k+1+5*n)/\(Zbz s (n:Int)).1.length<=n:=by
 have hms:=mst;have w0:IntKind.wrap .i64 ((n:Int)+1)=(n:Int)+1:=wrap_i64 _ (by omega) (by omega);obtain⟨c1,b1,d0,d1⟩:=Zp h (by omega) ((n:Int)+1) (by omega) (by omega);obtain⟨L,N,hs1⟩:∃L N,(L,N)=(Zd s ((n:Int)+1)).2:=⟨_,_,rfl⟩;obtain⟨q,hq⟩:∃q:Nat,(Zd s ((n:Int)+1)).1=(q:Int):=⟨_,(Yap d0).symm⟩;rw[<-hs1] at b1;obtain⟨r,hr,h1,L',N',o,hs',ho,hR⟩:=ZS (fl:=false) (t:=ZeS) (fuel:=λa=>400)
  (λa=>∃(i:Nat) (L:List Int) (N:Int) (o:List Z5),i<=q/\NB (L,N) (k+1+5*((q-i:Nat):Int))/\o.length<=q-i/\a=((i:Int),(L,N),o,()))
  (λa=>Int.toNat a.1) (λr=>r.1=false/\∃(L:List Int) (N:Int) (o:List Z5),NB (L,N) (k+1+5*(q:Int))/\o.length<=q/\r.2=((0:Int),(L,N),o,()))
  (by
   rintro a ⟨i,L,N,o,hi,hs',ho,rfl⟩;cases i with
   |zero=>
    right;left;exact⟨_,by simp only[ZeS,RT.val];rfl,rfl,L,N,o,by simpa using hs',by omega,rfl⟩
   |succ i=>
    left;have d:decide (((i+1:Nat):Int)>0)=true:=YJ (by omega);obtain⟨kw,bw,_⟩:=Z0c hs' (by omega);obtain⟨k1,b1,e0,e1⟩:=Zp bw (by omega) 6 (by decide) (by decide);obtain⟨k2,b2,_⟩:=Zp b1 (by omega) 3 (by decide) (by decide);obtain⟨k3,b3,f0,f1⟩:=Zp b2 (by omega) 5 (by decide) (by decide);have r1:Zg (Zd (Zb9 (L,N)).2 6).1 6=true:=Z0.2 ⟨e0,e1⟩;have r2:Zg (Zd (Zd (Zd (Zb9 (L,N)).2 6).2 3).2 5).1 5=true:=Z0.2 ⟨f0,f1⟩;have hb:∀x:Z5,Nat.ble (o++[x]).length most=true:=λx=>ZaF (by simp;omega)
    have w:IntKind.wrap .i64 (((i+1:Nat):Int)-1)=(i:Int):=by rw[wrap_i64 _ (by omega) (by omega)];omega
    obtain⟨o',ho'⟩:∃o':List Z5,o'=o++[((Zb9 (L,N)).1,u16.wrap (if 65535<i64.wrap (i64.wrap (Zb9 (L,N)).1+R.get (R.int i64) [0,3,15,255,4095,65535] (Zd (Zb9 (L,N)).2 6).1) then 65535 else i64.wrap (i64.wrap (Zb9 (L,N)).1+R.get (R.int i64) [0,3,15,255,4095,65535] (Zd (Zb9 (L,N)).2 6).1)),decide ((Zd (Zd (Zb9 (L,N)).2 6).2 3).1>0),R.get (R.int i64) [0,0,1,2,5] (Zd (Zd (Zd (Zb9 (L,N)).2 6).2 3).2 5).1)]:=⟨_,rfl⟩;refine⟨((i:Int),((Zd (Zd (Zd (Zb9 (L,N)).2 6).2 3).2 5).2.1,(Zd (Zd (Zd (Zb9 (L,N)).2 6).2 3).2 5).2.2),o',()),?_,⟨i,_,_,o',by omega,b3.up (by omega),by rw[ho'];simp;omega,rfl⟩,by simp only;omega⟩
    simp only[ZeS,RT.val,List.length_cons,List.length_nil,Nat.reduceAdd,d,kw,k1,k2,k3,r1,r2,hb,w,ho',Yb,Yf,Yj,Yh,Yu])
  ((q:Int),(L,N),[],()) ⟨q,L,N,[],Ye _,by simpa using b1,by simp,rfl⟩ (by simp only;omega)
 obtain⟨r1,r2⟩:=r;simp only at h1 hR;subst h1 hR;have hv:(Zhx s (n:Int)).val=some (o,L',N'):=by simp only[Zhx,RT.val,w0,c1,hq,<-hs1,hr,okB,getO,Yb]
 simp only[ZdZ,Zbz,hv,okB,getO];exact⟨trivial,hs'.up (by omega),by omega⟩
theorem Z6D {l:List Cell} (h:l.length<=1000):smC l=true:=ZaF (by have:=mst;omega)
theorem Z1z {l:List Int} (h:l.length<=1000):smB l=true:=ZaF (by have:=mst;omega)
theorem ZVV (h:NB s k) (hk:k<=400000):ZOU s=true/\NB (nMap s).2 (k+20)/\(nMap s).1.length<=3:=by
 obtain⟨c1,b1,l1⟩:=ZGX h (by omega) 2 (by omega);have c1:ZdZ s 2=true:=c1;have b1:NB (Zbz s 2).2 (k+1+5*((2:Nat):Int)):=b1;have l1:(Zbz s 2).1.length<=2:=l1;obtain⟨c2,b2,_⟩:=Zp b1 (by omega) 3 (by decide) (by decide);have hs:∀x:Z5,Nat.ble ((Zbz s 2).1++[x]).length most=true:=λx=>ZaF (by have:=mst;simp;omega)
 have hg:∀l:List Z5,Stg.l (newG ZfX ZfY l)=l:=λ_=>rfl
 have hv:(ZVW s).val=some ((Zbz s 2).1++[(0,65535,true,IntKind.wrap .i64 (Int.tdiv (Zd (Zbz s 2).2 3).1 2))],(Zd (Zbz s 2).2 3).2):=by simp only[ZVW,RT.val,hg,c1,c2,hs,Yf,Yj,Yh,Yb]
 refine⟨by simp only[ZOU,hv];rfl,?_,?_⟩
 ·simp only[nMap,hv,getO];exact b2.up (by omega)
 ·simp only[nMap,hv,getO];simp;omega
theorem ZGZ (h:NB s k) (hk:k<=300000) (n:Nat) (hn:n<=20):
  Zhz s (n:Int)=true/\NB (Zcx s (n:Int)).2 (k+1+10*n)/\(Zcx s (n:Int)).1.length<=12*n:=by
 have hms:=mst;have w0:IntKind.wrap .i64 ((n:Int)+1)=(n:Int)+1:=wrap_i64 _ (by omega) (by omega);obtain⟨c1,b1,d0,d1⟩:=Zp h (by omega) ((n:Int)+1) (by omega) (by omega);obtain⟨s1,hs1⟩:∃s1,s1=(Zd s ((n:Int)+1)).2:=⟨_,rfl⟩;obtain⟨q,hq⟩:∃q:Nat,(Zd s ((n:Int)+1)).1=(q:Int):=⟨_,(Yap d0).symm⟩;rw[<-hs1] at b1;obtain⟨r,hr,h1,s',o,hs',ho,hR⟩:=ZS (fl:=false) (t:=ZdE) (fuel:=λa=>400)
  (λa=>∃(i:Nat) (s':List Int×Int) (o:List Int),i<=q/\NB s' (k+1+10*((q-i:Nat):Int))/\o.length<=12*(q-i)/\a=((i:Int),s',o,()))
  (λa=>Int.toNat a.1) (λr=>r.1=false/\∃(s':List Int×Int) (o:List Int),NB s' (k+1+10*(q:Int))/\o.length<=12*q/\r.2=((0:Int),s',o,()))
  (by
   rintro a ⟨i,s',o,hi,hs',ho,rfl⟩;cases i with
   |zero=>
    right;left;exact⟨_,by simp only[ZdE,RT.val];rfl,rfl,s',o,by simpa using hs',by omega,rfl⟩
   |succ i=>
    left;have d:decide (((i+1:Nat):Int)>0)=true:=YJ (by omega);have w:IntKind.wrap .i64 (((i+1:Nat):Int)-1)=(i:Int):=by rw[wrap_i64 _ (by omega) (by omega)];omega
    obtain⟨k0,b0,_⟩:=Zp hs' (by omega) 8 (by decide) (by decide);obtain⟨k1,b1,e0,e1⟩:=Zp b0 (by omega) 4 (by decide) (by decide);obtain⟨k2,b2,_⟩:=Zp b1 (by omega) 256 (by decide) (by decide);obtain⟨k3,b3,f0,f1⟩:=Zp b2 (by omega) 4 (by decide) (by decide);obtain⟨k4,b4,_⟩:=Zie b0 (by omega);obtain⟨k5,b5,_⟩:=Zp b4 (by omega) 8 (by decide) (by decide);obtain⟨k6,b6,_⟩:=Zp b0 (by omega) 16 (by decide) (by decide);obtain⟨k7,b7,_⟩:=Zie b6 (by omega);obtain⟨k8,b8,_⟩:=Zlv b0 (by omega);obtain⟨k9,b9,_⟩:=Zp b8 (by omega) 64 (by decide) (by decide);obtain⟨ka,ba,g0,g1⟩:=Zp b9 (by omega) 4 (by decide) (by decide);have r1:Zg (Zd (Zd s' 8).2 4).1 4=true:=Z0.2 ⟨e0,e1⟩;have r2:Zg (Zd (Zd (Zd (Zd s' 8).2 4).2 256).2 4).1 4=true:=Z0.2 ⟨f0,f1⟩;have r3:Zg (Zd (Zd (Zat (Zd s' 8).2).2 64).2 4).1 4=true:=Z0.2 ⟨g0,g1⟩;have hb:∀x:List Int,x.length<=12->Nat.ble (o++x).length most=true:=λx hx=>ZaF (by rw[Yd];omega)
    have q1:∀a b c:Int,Nat.ble (o++[a,b,c]).length most=true:=λa b c=>hb _ (by simp)
    have q2:∀a b c d:Int,Nat.ble (o++[a,b,c,d]).length most=true:=λa b c d=>hb _ (by simp)
    have q3:∀a:Int,Nat.ble (o++[a]).length most=true:=λa=>hb _ (by simp)
    have q4:∀a b c d e f g h i j k l:Int,Nat.ble (o++[a,b,c,d,e,f,g,h,i,j,k,l]).length most=true:=λa b c d e f g h i j k l=>hb _ (by simp)
    have hv:∃s2 x,x.length<=12/\NB s2 (k+1+10*((q-i:Nat):Int))/\(ZdE (((i+1:Nat):Int),s',o,())).val=some (Go1.cont ((i:Int),s2,o++x,())):=by
     simp only[ZdE,RT.val,List.length_cons,List.length_nil,Nat.reduceAdd,d,w,k0,k1,k2,k3,k4,k5,k6,k7,k8,k9,ka,r1,r2,r3,q1,q2,q3,q4,Yb,Yf,Yj,Yh,Yu];cases (Zd s' 8).1==0
     ·cases (Zd s' 8).1==1
      ·cases (Zd s' 8).1==2
       ·cases (Zd s' 8).1==3
        ·exact⟨_,[(Zat (Zd s' 8).2).1,IntKind.wrap .u8 (Zd (Zat (Zd s' 8).2).2 64).1,R.get (R.int .u8) [0,0,1,255] (Zd (Zd (Zat (Zd s' 8).2).2 64).2 4).1],by simp,ba.up (by omega),rfl⟩
        ·exact⟨_,[62,IntKind.wrap .u8 (IntKind.wrap .i64 (16+(Zd (Zd s' 8).2 16).1)),211,0,62,(ZcX (Zd (Zd s' 8).2 16).2).1,211,1,62,0,211,1],by simp,b7.up (by omega),rfl⟩
       ·exact⟨_,[251],by simp,b0.up (by omega),rfl⟩
      ·exact⟨_,[62,(ZcX (Zd s' 8).2).1,211,IntKind.wrap .u8 (Zd (ZcX (Zd s' 8).2).2 8).1],by simp,b5.up (by omega),rfl⟩
     ·exact⟨_,[R.get (R.int .u8) [33,49,1,17] (Zd (Zd s' 8).2 4).1,IntKind.wrap .u8 (Zd (Zd (Zd s' 8).2 4).2 256).1,R.get (R.int .u8) [0,0,1,255] (Zd (Zd (Zd (Zd s' 8).2 4).2 256).2 4).1],by simp,b3.up (by omega),rfl⟩
    obtain⟨s2,x,hx,hs2,hv⟩:=hv
    exact⟨_,hv,⟨i,s2,o++x,by omega,hs2,by rw[Yd];omega,rfl⟩,by simp only;omega⟩)
  ((q:Int),s1,[],()) ⟨q,s1,[],Ye _,by simpa using b1,by simp,rfl⟩ (by simp only;omega)
 obtain⟨r1,r2⟩:=r;simp only at h1 hR;subst h1 hR;have hv:(Zhy s (n:Int)).val=some (o,s'):=by simp only[Zhy,RT.val,w0,c1,hq,<-hs1,hr,okB,getO,Yb]
 simp only[Zhz,Zcx,hv,okB,getO];exact⟨trivial,hs'.up (by omega),by omega⟩
theorem ZB0 (t:Int) (b:List Int):(Zr2 t b).length<=b.length:=by have:=ZeQ (Zq7 t b b.length);rw[Zq6] at this;exact this
theorem ZBD (h:NB s k) (hk:k<=300000):ZhA s=true/\NB (ZcC s).2 (k+20):=by
 obtain⟨c1,b1,_⟩:=Zp h (by omega) 64 (by decide) (by decide);obtain⟨c2,b2,_⟩:=Zp b1 (by omega) 256 (by decide) (by decide);obtain⟨c3,b3,_⟩:=Zlv b1 (by omega);obtain⟨f1,g1⟩:=ZdT b1 (by omega);obtain⟨f2,g2⟩:=ZdT g1 (by omega);obtain⟨f3,g3⟩:=ZdT g2 (by omega);obtain⟨f4,g4⟩:=ZdT g3 (by omega);obtain⟨f5,g5⟩:=ZdT g4 (by omega);obtain⟨c4,b4,_⟩:=Zp g5 (by omega) 256 (by decide) (by decide);obtain⟨c5,b5,_⟩:=Zp b4 (by omega) 256 (by decide) (by decide);have hv:∃c s',(ZqQ s).val=some (c,s')/\NB s' (k+20):=by
  simp only[ZqQ,RT.val,c1,c2,c3,c4,c5,f1,f2,f3,f4,f5,Yb,Yf,Yj,Yh,Yu];cases decide ((Zd s 64).1<30) with
  |true=>exact⟨_,_,rfl,b1.up (by omega)⟩
  |false=>
  cases decide ((Zd s 64).1<36) with
  |true=>exact⟨_,_,rfl,b1.up (by omega)⟩
  |false=>
  cases decide ((Zd s 64).1<40) with
  |true=>exact⟨_,_,rfl,b1.up (by omega)⟩
  |false=>
  cases decide ((Zd s 64).1<46) with
  |true=>exact⟨_,_,rfl,b2.up (by omega)⟩
  |false=>
  cases decide ((Zd s 64).1<50) with
  |true=>exact⟨_,_,rfl,b1.up (by omega)⟩
  |false=>
  cases decide ((Zd s 64).1<53) with
  |true=>exact⟨_,_,rfl,b1.up (by omega)⟩
  |false=>
  cases decide ((Zd s 64).1<55) with
  |true=>exact⟨_,_,rfl,b1.up (by omega)⟩
  |false=>
  cases ((Zd s 64).1==55) with
  |true=>exact⟨_,_,rfl,b1.up (by omega)⟩
  |false=>
  cases decide ((Zd s 64).1<60) with
  |true=>exact⟨_,_,rfl,b3.up (by omega)⟩
  |false=>exact⟨_,_,rfl,b5.up (by omega)⟩
 obtain⟨c,s',hv,h1⟩:=hv;simp only[ZhA,ZcC,hv,okB,getO];exact⟨trivial,h1⟩
theorem Z5Q (s:List Int×Int) (z:Int) (c:INPT) (kk:Nat) (hk:kk<300) (o:List INPT) (size:Nat) (ho:o.length<=size) (hz:size<=300):
  ∃k2 o2,runF false Zet (λ_=>400) ((size:Int),(kk:Int),s,c,o,())=some (false,(size:Int),k2,s,c,o2,())/\o2.length<=size/\o.length<=o2.length/\(o.length<size->o.length<o2.length):=by
 have hms:=mst;obtain⟨r,hr,h1,k2,o2,e1,e2,e3,e4⟩:=ZS (fl:=false) (t:=Zet) (fuel:=λ_=>400)
  (λa=>∃(j:Nat) (o2:List INPT),j<=kk+1/\o2.length<=size/\o.length<=o2.length/\(j=kk+1\/o.length<o2.length)/\a=((size:Int),(j:Int)-1,s,c,o2,()))
  (λa=>Int.toNat (a.2.1+1)) (λr=>r.1=false/\∃k2 o2,r.2=((size:Int),k2,s,c,o2,())/\o2.length<=size/\o.length<=o2.length/\(o.length<size->o.length<o2.length))
  (by
   rintro a ⟨j,o2,hj,h2,h3,h4,rfl⟩;have w:∀j:Nat,j<=1000->IntKind.wrap .i64 (((j:Nat):Int)-1-1)=(j:Int)-1-1:=λj hj=>wrap_i64 _ (by omega) (by omega)
   by_cases hc:1<=j/\o2.length<size
   ·left;have d1:decide (((j:Nat):Int)-1>=0)=true:=YJ (by omega);have d2:decide (iN o2.length<(size:Int))=true:=YJ (by simp only[iN];omega);have hb:Nat.ble (o2++[c]).length most=true:=ZaF (by simp;omega);refine⟨((size:Int),(j:Int)-1-1,s,c,o2++[c],()),?_,⟨j-1,o2++[c],by omega,by simp;omega,by simp;omega,by right;simp;omega,?_⟩,by simp only;omega⟩
    ·simp only[Zet,RT.val,d1,d2,hb,YY,Yb,w j (by omega)]
    ·have:((j:Nat):Int)-1=((j-1:Nat):Int):=by omega
     rw[this]
   ·right;left;have d:(decide (((j:Nat):Int)-1>=0)&&decide (iN o2.length<(size:Int)))=false:=by simp only[iN,Yad,Y6];omega
    exact⟨((size:Int),(j:Int)-1,s,c,o2,()),by simp only[Zet,RT.val,d,Yc],rfl,_,o2,rfl,h2,h3,λh=>by
     rcases h4 with h4|h4
     ·omega
     ·exact h4⟩)
  ((size:Int),(kk:Int),s,c,o,()) ⟨kk+1,o,Ye _,ho,Ye _,.inl rfl,by
   have:(kk:Int)=((kk+1:Nat):Int)-1:=by omega
   rw[<-this]⟩ (by simp only;omega)
 obtain⟨r1,r2⟩:=r;simp only at h1 e1;subst h1 e1;exact⟨k2,o2,hr,e2,e3,e4⟩
theorem ZOW (h:NB s k) (hk:k<=100000) (n:Nat) (hn:n<=250):
  Zj8 s (n:Int)=true/\NB (Zaj s (n:Int)).2 (k+1+30*n)/\(Zaj s (n:Int)).1.length<=n:=by
 have hms:=mst;have w0:IntKind.wrap .i64 ((n:Int)+1)=(n:Int)+1:=wrap_i64 _ (by omega) (by omega);obtain⟨c1,b1,d0,d1⟩:=Zp h (by omega) ((n:Int)+1) (by omega) (by omega);obtain⟨s1,hs1⟩:∃s1,s1=(Zd s ((n:Int)+1)).2:=⟨_,rfl⟩;obtain⟨q,hq⟩:∃q:Nat,(Zd s ((n:Int)+1)).1=(q:Int):=⟨_,(Yap d0).symm⟩;rw[<-hs1] at b1;obtain⟨r,hr,h1,s',o,hs',ho,hR⟩:=ZS (fl:=false) (t:=Zf0) (fuel:=λa=>400)
  (λa=>∃(s':List Int×Int) (o:List INPT),NB s' (k+1+30*(o.length:Int))/\o.length<=q/\a=((q:Int),s',o,()))
  (λa=>Int.toNat a.1-a.2.2.1.length) (λr=>r.1=false/\∃(s':List Int×Int) (o:List INPT),NB s' (k+1+30*(q:Int))/\o.length<=q/\r.2=((q:Int),s',o,()))
  (by
   rintro a ⟨s',o,hs',ho,rfl⟩;by_cases hc:o.length<q
   ·left;have d:decide (iN o.length<(q:Int))=true:=YJ (by simp only[iN];omega);obtain⟨i1,g1⟩:=ZBD hs' (by omega);obtain⟨i2,g2,m0,m1⟩:=Zp g1 (by omega) 4 (by decide) (by decide);obtain⟨i3,g3,m2,m3⟩:=Zp g2 (by omega) 5 (by decide) (by decide);obtain⟨x,hx⟩:∃x:Nat,(Zd (ZcC s').2 4).1=(x:Int):=⟨_,(Yap m0).symm⟩;obtain⟨y,hy⟩:∃y:Nat,(Zd (Zd (ZcC s').2 4).2 5).1=(y:Int):=⟨_,(Yap m2).symm⟩;have hxy:x*y<=3*4:=Nat.mul_le_mul (by omega) (by omega);have w:IntKind.wrap .i64 ((x:Int)*(y:Int))=((x*y:Nat):Int):=by rw[show (x:Int)*(y:Int)=((x*y:Nat):Int) by simp,wrap_i64 _ (by omega) (by omega)]
    obtain⟨k2,o2,hr,e2,e3,e4⟩:=Z5Q (Zd (Zd (ZcC s').2 4).2 5).2 0 (ZcC s').1 (x*y) (by omega) o q ho (by omega);have e5:=e4 hc;refine⟨((q:Int),(Zd (Zd (ZcC s').2 4).2 5).2,o2,()),?_,⟨_,o2,g3.up (by omega),e2,rfl⟩,by simp only;omega⟩;simp only[Zf0,RT.val,d,i1,i2,i3,hx,hy,w,hr,okB,getO,Yb,Yf,Yj,Yh,Yu]
   ·right;left;have d:decide (iN o.length<(q:Int))=false:=Yaj (by simp only[iN];omega)
    exact⟨_,by simp only[Zf0,RT.val,d,Yc],rfl,s',o,hs'.up (by omega),ho,rfl⟩)
  ((q:Int),s1,[],()) ⟨s1,[],by simpa using b1,by simp,rfl⟩ (by simp only[List.length_nil];omega)
 obtain⟨r1,r2⟩:=r;simp only at h1 hR;subst h1 hR;have hv:(Zj7 s (n:Int)).val=some (o,s'):=by simp only[Zj7,RT.val,w0,c1,hq,<-hs1,hr,okB,getO,Yb]
 simp only[Zj8,Zaj,hv,okB,getO];exact⟨trivial,hs'.up (by omega),by omega⟩
theorem ZV5 (h:NB s k) (hk:k<=10000):
  ZqU s=true/\NB (Zde s).2 (k+300)/\(∃s1,NB s1 (k+1)/\(Zde s).1.2.1=(nMap s1).1)/\((Zde s).1.1=1\/(Zde s).1.1=2)/\
   (0<=(Zde s).1.2.2.1/\(Zde s).1.2.2.1<=2)/\∃l:List Cell,l.length<=200/\(Zde s).1.2.2.2.2.2.2=normX l:=by
 have hms:=mst;obtain⟨c0,b0,hch⟩:=Z0e h (by omega);obtain⟨c1,b1,l1⟩:=ZVV b0 (by omega);obtain⟨c2,b2,w0,w1⟩:=Zp b1 (by omega) 3 (by decide) (by decide);obtain⟨c3,b3,_⟩:=Zp b2 (by omega) 4 (by decide) (by decide);obtain⟨c4,b4,_⟩:=Zp b3 (by omega) 6 (by decide) (by decide);obtain⟨c5,b5,_⟩:=Zie b4 (by omega);obtain⟨c6,b6,_⟩:=Zie b5 (by omega)
 obtain⟨s2,hs2,b7⟩:∃s2,s2=((bif (Zd (Zd (Zd (nMap (Za8 s).2).2 3).2 4).2 6).1==0 then (ZcX (ZcX (Zd (Zd (Zd (nMap (Za8 s).2).2 3).2 4).2 6).2).2).2.1 else (Zd (Zd (Zd (nMap (Za8 s).2).2 3).2 4).2 6).2.1,
   bif (Zd (Zd (Zd (nMap (Za8 s).2).2 3).2 4).2 6).1==0 then (ZcX (ZcX (Zd (Zd (Zd (nMap (Za8 s).2).2 3).2 4).2 6).2).2).2.2 else (Zd (Zd (Zd (nMap (Za8 s).2).2 3).2 4).2 6).2.2):List Int×Int)/\NB s2 (k+30):=by
  refine⟨_,rfl,?_⟩;cases (Zd (Zd (Zd (nMap (Za8 s).2).2 3).2 4).2 6).1==0
  ·exact b4.up (by omega)
  ·exact b6.up (by omega)
 obtain⟨c8,b8,l8⟩:=ZGZ b7 (by omega) 12 (by omega);have c8:Zhz s2 12=true:=c8;have b8:NB (Zcx s2 12).2 (k+30+1+10*((12:Nat):Int)):=b8;have l8:(Zcx s2 12).1.length<=12*12:=l8;obtain⟨c9,b9,d0,d1⟩:=Zp b8 (by omega) 4 (by decide) (by decide);have hl:=ZB0 0 (Zcx s2 12).1;obtain⟨q,hq⟩:∃q:Nat,(Zd (Zcx s2 12).2 4).1=(q:Int):=⟨_,(Yap d0).symm⟩;have hg:∀l:List Cell,Stg.l (newG Zc6 Zur l)=l:=λ_=>rfl
 have key:∀x y z:BRDT,∀o:List Cell,o.length<=144->∃s' o',NB s' (k+200)/\o'.length<=200/\
   runF false Zf1 (λ_=>400) ((q:Int),(Zd (Zcx s2 12).2 4).2,x,y,o,())=some (false,0,s',x,y,o',()):=by
  intro x y z o ho;obtain⟨r,hr,h1,s',o',g1,g2,g3⟩:=ZS (fl:=false) (t:=Zf1) (fuel:=λ_=>400)
   (λa=>∃(i:Nat) (s':List Int×Int) (o:List Cell),i<=q/\NB s' (k+30+1+10*((12:Nat):Int)+1+4*((q-i:Nat):Int))/\o.length<=144+3*(q-i)/\a=((i:Int),s',x,y,o,()))
   (λa=>Int.toNat a.1) (λr=>r.1=false/\∃s' o',NB s' (k+200)/\o'.length<=200/\r.2=(0,s',x,y,o',()))
   (by
    rintro a ⟨i,s',o,hi,hs',ho,rfl⟩;cases i with
    |zero=>
     right;left;exact⟨_,by simp only[Zf1,RT.val];rfl,rfl,s',o,hs'.up (by omega),by omega,rfl⟩
    |succ i=>
     left;have d:decide (((i+1:Nat):Int)>0)=true:=YJ (by omega);have w:IntKind.wrap .i64 (((i+1:Nat):Int)-1)=(i:Int):=by rw[wrap_i64 _ (by omega) (by omega)];omega
     obtain⟨k0,b0,e0,e1⟩:=Zp hs' (by omega) 6 (by decide) (by decide);obtain⟨k1,b1,_⟩:=Zlv b0 (by omega);have r1:Zg (Zd s' 6).1 6=true:=Z0.2 ⟨e0,e1⟩;have hsb:∀a b c:Int,smB [a,b,c]=true:=λa b c=>Z1z (by simp)
     have hll:=ZB0 (IntKind.wrap .u16 (R.get (R.int .i64) [36,60,52,44,56,32] (Zd s' 6).1)) [(Zat (Zd s' 6).2).1,251,201];simp only[List.length_cons,List.length_nil] at hll;have hb:Nat.ble (o++Zr2 (IntKind.wrap .u16 (R.get (R.int .i64) [36,60,52,44,56,32] (Zd s' 6).1)) [(Zat (Zd s' 6).2).1,251,201]).length most=true:=ZaF (by rw[Yd];omega);refine⟨((i:Int),(Zat (Zd s' 6).2).2,x,y,o++Zr2 (IntKind.wrap .u16 (R.get (R.int .i64) [36,60,52,44,56,32] (Zd s' 6).1)) [(Zat (Zd s' 6).2).1,251,201],()),?_,⟨i,_,_,by omega,b1.up (by omega),by rw[Yd];omega,rfl⟩,by simp only;omega⟩
     simp only[Zf1,RT.val,hg,List.length_cons,List.length_nil,Nat.reduceAdd,d,w,k0,k1,r1,hsb,hb,Yb,Yf,Yj,Yh,Yu])
   ((q:Int),(Zd (Zcx s2 12).2 4).2,x,y,o,()) ⟨q,_,o,Ye _,b9.up (by omega),by omega,rfl⟩ (by simp only;omega)
  obtain⟨r1,r2⟩:=r;simp only at h1 g3;subst h1 g3;exact⟨s',o',g1,g2,hr⟩
 obtain⟨s',o',g1,g2,hr⟩:=key (0,[],0,0,0,false,[]) ((Za8 s).1,(nMap (Za8 s).2).1,(Zd (nMap (Za8 s).2).2 3).1,bif (Zd (Zd (Zd (nMap (Za8 s).2).2 3).2 4).2 6).1==0 then (ZcX (Zd (Zd (Zd (nMap (Za8 s).2).2 3).2 4).2 6).2).1 else 0,
  bif (Zd (Zd (Zd (nMap (Za8 s).2).2 3).2 4).2 6).1==0 then (ZcX (ZcX (Zd (Zd (Zd (nMap (Za8 s).2).2 3).2 4).2 6).2).2).1 else 4,(Zd (Zd (nMap (Za8 s).2).2 3).2 4).1==0,[]) (0,[],0,0,0,false,[]) (Zr2 0 (Zcx s2 12).1) (by omega)
 have hsc:smC o'=true:=Z6D (by omega);have hsb:smB (Zcx s2 12).1=true:=Z1z (by omega);have hv:∃p d,(ZqT s).val=some (((Za8 s).1,(nMap (Za8 s).2).1,(Zd (nMap (Za8 s).2).2 3).1,p,d,(Zd (Zd (nMap (Za8 s).2).2 3).2 4).1==0,normX o'),s'):=by
  refine⟨bif (Zd (Zd (Zd (nMap (Za8 s).2).2 3).2 4).2 6).1==0 then (ZcX (Zd (Zd (Zd (nMap (Za8 s).2).2 3).2 4).2 6).2).1 else 0,
   bif (Zd (Zd (Zd (nMap (Za8 s).2).2 3).2 4).2 6).1==0 then (ZcX (ZcX (Zd (Zd (Zd (nMap (Za8 s).2).2 3).2 4).2 6).2).2).1 else 4,?_⟩
  simp only[ZqT,RT.val,hg,<-hs2,c0,c1,c2,c3,c4,c5,c6,c8,c9,hsb,hq,hr,hsc,okB,getO,Yb,Yf,Yj,Yh,Yu]
 obtain⟨p,d,hv⟩:=hv;have e1:ZqU s=true:=by simp only[ZqU,hv];rfl
 have e2:Zde s=(((Za8 s).1,(nMap (Za8 s).2).1,(Zd (nMap (Za8 s).2).2 3).1,p,d,(Zd (Zd (nMap (Za8 s).2).2 3).2 4).1==0,normX o'),s'):=by simp only[Zde,hv,getO]
 rw[e2];exact⟨e1,g1.up (by omega),⟨_,b0,rfl⟩,hch,⟨w0,by show (Zd (nMap (Za8 s).2).2 3).1<=2;omega⟩,o',g2,rfl⟩
theorem Z3m (s:Int) {l:Int} (h:0<=l):vOnC s l=true:=by simp only[vOnC,vOnT,RT.val,YJ h,Yb,okB]
theorem Zun (s k:Int):Zit s k=true/\ -1<=Zdy s k/\Zdy s k<=7:=by
 obtain⟨r,hr,h0,h1,h2⟩:=ZS (fl:=false) (t:=Zc7) (fuel:=λ_=>9)
  (λa=>∃(i:Nat) (m:Int),i<=8/\ -1<=m/\m<=7/\a=(s,k,m,(i:Int),()))
  (λa=>Int.toNat (8-a.2.2.2.1)) (λr=>r.1=false/\ -1<=r.2.2.2.1/\r.2.2.2.1<=7)
  (by
   rintro a ⟨i,m,hi,h1,h2,rfl⟩;by_cases hlt:i<8
   ·left;have d:decide ((i:Int)<8)=true:=YJ (by omega);have w:IntKind.wrap .i64 ((i:Int)+1)=((i+1:Nat):Int):=by rw[wrap_i64 _ (by omega) (by omega)];omega
    have c:vOnC s (i:Int)=true:=Z3m s (by omega);refine⟨(s,k,bif vOn s (i:Int)&&(decide (m<0)||decide (Zdn (i:Int) k<Zdn m k)) then (i:Int) else m,((i+1:Nat):Int),()),by simp only[Zc7,RT.val,d,c,w,Yb],⟨i+1,_,by omega,?_,?_,rfl⟩,by simp only;omega⟩
    ·cases vOn s (i:Int)&&(decide (m<0)||decide (Zdn (i:Int) k<Zdn m k))<;>simp only[Yb,Yc]<;>omega
    ·cases vOn s (i:Int)&&(decide (m<0)||decide (Zdn (i:Int) k<Zdn m k))<;>simp only[Yb,Yc]<;>omega
   ·right;left;have d:decide ((i:Int)<8)=false:=Yaj (by omega)
    exact⟨(s,k,m,(i:Int),()),by simp only[Zc7,RT.val,d,Yc],rfl,h1,h2⟩)
  (s,k,-1,0,()) ⟨0,-1,by omega,by omega,by omega,rfl⟩ (by simp only;omega)
 obtain⟨r1,r2⟩:=r;simp only at h0 h1 h2;subst h0;have hv:(Zl0 s k).val=some r2.2.2.1:=by simp only[Zl0,RT.val,hr,okB,getO,Yb]
 exact⟨by simp only[Zit,hv];rfl,by simp only[Zdy,hv,getO];exact h1,by simp only[Zdy,hv,getO];exact h2⟩
theorem Zum (p:PICT):ZrT p=true/\ -1<=vPck p/\vPck p<=7:=by
 have key:∀r m s k q,∃v:Int,(ZlZ r m s k q).val=some v/\ -1<=v/\v<=7:=by
  intro r m s k q;have h1:=Zun (Z4 .u8 r m) k;have h2:=Zun (ZcI m s q) k;simp only[ZlZ,RT.val,h1.1,h2.1,Yb];cases decide (Zdy (Z4 .u8 r m) k>=0)&&(decide (Zdy (ZcI m s q) k<0)||decide (Zdn (Zdy (Z4 .u8 r m) k) k<Zdn (Zdy (ZcI m s q) k) k))
  ·exact⟨-1,rfl,by omega,by omega⟩
  ·exact⟨_,rfl,h1.2.1,h1.2.2⟩
 obtain⟨v,hv,h1,h2⟩:=key (vReq p) p.2.2.2.2.2.2.2.2.2.2.2.2.2.2.2.1 p.2.2.2.2.2.2.2.2.2.2.2.2.2.2.1 p.2.2.2.2.2.2.2.2.2.2.2.2.2.2.2.2.1 p.2.2.2.2.2.2.2.2.2.1;have e:(ZCZ p).val=some v:=by simp only[ZCZ,RT.val,Zsm,ZCX,hv,okB,getO,Yb]
 exact⟨by simp only[ZrT,e];rfl,by simp only[vPck,e,getO];exact h1,by simp only[vPck,e,getO];exact h2⟩
theorem Z3p (p:PICT):ZL2 p=true:=by simp only[ZL2,ZL1,RT.val,(Zum p).1,Yb,okB]
variable {x:Int}
theorem ZH9 (p:PICT) (h:0<=x):ZgV p x=true:=by simp only[ZgV,Zsh,RT.val,YJ h,Yb,okB]
theorem ZIl (p:PICT) (h:0<=x):Ziu p x=true:=by simp only[Ziu,Zzp,RT.val,YJ h,Yb,okB]
theorem ZQy (p:PICT):ZL6 p=true:=by
 have h1:=(Zum p).1;have h3:∀q:PICT,Ziu q (andI .i64 p.2.2.2.2.2.2.2.2.2.2.2.2.2.2.2.2.2.2.1 7)=true:=λq=>ZIl q (and7 _).1
 have h2:∀q:PICT,(!decide (vPck p>=0)||ZgV q (vPck p))=true:=λq=>by
  by_cases h:vPck p>=0
  ·rw[ZH9 q h,Yh]
  ·rw[Yaj h];rfl
 unfold ZL6 ZL5;simp only[RT.val,h1,h2,h3,Yh,Yb];cases p.2.2.2.2.2.2.2.2.2.2.2.2.2.2.2.2.2.1==0
 ·cases p.2.2.2.2.2.2.2.2.2.2.2.2.2.2.2.2.2.1==1
  ·rfl
  ·cases p.2.2.1<;>rfl
 ·rfl
theorem ZIa (p:PICT) (h:Bool):Zsl p h=true:=by
 have h1:=(Zum p).1;unfold Zsl Zsk;by_cases hx:0<=vPck p
 ·have h2:∀q:PICT,ZgV q (vPck p)=true:=λq=>ZH9 q hx
  have h3:∀q:PICT,Ziu q (vPck p)=true:=λq=>ZIl q hx
  simp only[RT.val,h1,h2,h3,ZbQ,ZaM,Yh,Yf,Yb];cases h
  ·cases p.2.2.2.2.2.2.2.2.2.2.2.1
   ·cases p.2.2.2.2.2.2.2.2.2.2.1<;>rfl
   ·cases decide (vPck p<0)<;>rfl
  ·rfl
 ·have h2:decide (vPck p<0)=true:=YJ (by omega);simp only[RT.val,h1,h2,ZbQ,ZaM,Yh,Yt,Yf,Yb];cases h
  ·cases p.2.2.2.2.2.2.2.2.2.2.2.1
   ·cases p.2.2.2.2.2.2.2.2.2.2.1<;>rfl
   ·rfl
  ·rfl
theorem ZX0 (p:PICT) (v:Int):Zso p v=true:=by
 have h1:=λs k=>(Zun s k).1
 have h2:∀x:Int,(!decide (x>=0)||decide (0<=x))=true:=λx=>by by_cases h:0<=x<;>simp[h]
 have h3:decide (0<=IntKind.wrap .i64 (andI .u8 v 7))=true:=by have:=Z7R v;rw[wrap_i64 _ (by omega) (by omega)];exact YJ this.1
 unfold Zso Zsn;simp only[RT.val,h1,h2,h3,ZbQ,ZaM,Yh,Yf,Yb];rfl
theorem Zzk (p:PICT) (h:Bool) (v:Int):ZkG p h v=true:=by
 unfold ZkG ZkF;simp only[RT.val,ZX0,Yh,Yb];cases h
 ·cases andI .u8 v 16 !=0
  ·cases andI .u8 v 8==0<;>rfl
  ·rfl
 ·rfl
theorem ZQg (d:QT4) (r:Int):ZkI d r=true:=by have h:=and3 r;have h1:decide (0<=andI .i64 r 3/\andI .i64 r 3<4)=true:=YJ ⟨h.1,by omega⟩;simp only[ZkI,ZkH,RT.val,h1,Yb,okB]
theorem Zfi (o:Bool) {n:Int} (h:0<=n):Zgb o n=true:=by simp only[Zgb,ZXV,RT.val,YJ h,Yh,Yb];cases o<;>rfl
theorem ZLX (l:List INPT) (hl:l.length<=1000):ZmD l=true/\(ZiG l).length=4*l.length:=by
 have hms:=mst;obtain⟨r,hr,h0,h1⟩:=ZS (fl:=false) (t:=Zdv) (fuel:=λ_=>1000000000000)
  (λa=>∃(i:Nat) (o:List Int),i<=l.length/\o.length=4*i/\a=(l,(l.length:Int),(i:Int),o,()))
  (λa=>Int.toNat (a.2.1-a.2.2.1)) (λr=>r.1=false/\r.2.2.2.2.1.length=4*l.length)
  (by
   rintro a ⟨i,o,hi,ho,rfl⟩;by_cases hlt:i<l.length
   ·left;have d:decide ((i:Int)<(l.length:Int))=true:=YJ (by omega);have d2:decide ((i:Int)>=65536)=false:=Yaj (by omega);have hin:Zg (i:Int) l.length=true:=Z0.2 ⟨by omega,by omega⟩;have w:IntKind.wrap .i64 ((i:Int)+1)=((i+1:Nat):Int):=by rw[wrap_i64 _ (by omega) (by omega)];omega
    have hb:∀a b c d:Int,Nat.ble (o++[a,b,c,d]).length most=true:=λa b c d=>ZaF (by simp;omega)
    have b0:=λx=>Zfi x (n:=0) (by decide)
    have b1:=λx=>Zfi x (n:=1) (by decide)
    have b2:=λx=>Zfi x (n:=2) (by decide)
    have b3:=λx=>Zfi x (n:=3) (by decide)
    have b4:=λx=>Zfi x (n:=4) (by decide)
    have b5:=λx=>Zfi x (n:=5) (by decide)
    have b6:=λx=>Zfi x (n:=6) (by decide)
    have b7:=λx=>Zfi x (n:=7) (by decide)
    have hv:∃a b c d:Int,(Zdv (l,(l.length:Int),(i:Int),o,())).val=some (Go1.cont (l,(l.length:Int),((i+1:Nat):Int),o++[a,b,c,d],())):=by simp only[Zdv,RT.val,d,d2,hin,w,hb,b0,b1,b2,b3,b4,b5,b6,b7,ZbQ,ZaM,Yh,Yf,Yj,Yu,Yb,Yc];exact⟨_,_,_,_,rfl⟩
    obtain⟨a,b,c,d,hv⟩:=hv;exact⟨_,hv,⟨i+1,_,by omega,by simp;omega,rfl⟩,by simp only;omega⟩
   ·right;left;have d:decide ((i:Int)<(l.length:Int))=false:=Yaj (by omega)
    exact⟨(l,(l.length:Int),(i:Int),o,()),by simp only[Zdv,RT.val,d,Yc],rfl,by simp only;omega⟩)
  (l,(l.length:Int),0,[],()) ⟨0,[],by omega,rfl,rfl⟩ (by simp only;omega)
 obtain⟨r1,r2⟩:=r;simp only at h0 h1;subst h0;have hv:(Zga l).val=some r2.2.2.2.1:=by simp only[Zga,RT.val,iN,hr,okB,getO,Yb]
 exact⟨by simp only[ZmD,hv];rfl,by simp only[ZiG,hv,getO];exact h1⟩
theorem Zsb (l:List Int) (hl:l.length<=4000):ZmE l=true/\(Zbm l).length=l.length/4:=by
 have hms:=mst;obtain⟨r,hr,h0,h1⟩:=ZS (fl:=false) (t:=Zdw) (fuel:=λ_=>1000000000000)
  (λa=>∃(i:Nat) (o:List INPT),4*i<=l.length/\o.length=i/\a=(l,((4*i:Nat):Int),o,()))
  (λa=>Int.toNat (l.length-a.2.1)) (λr=>r.1=false/\r.2.2.2.1.length=l.length/4)
  (by
   rintro a ⟨i,o,hi,ho,rfl⟩;have w1:IntKind.wrap .i64 (((4*i:Nat):Int)+1)=((4*i+1:Nat):Int):=by rw[wrap_i64 _ (by omega) (by omega)];omega
   have w2:IntKind.wrap .i64 (((4*i:Nat):Int)+2)=((4*i+2:Nat):Int):=by rw[wrap_i64 _ (by omega) (by omega)];omega
   have w3:IntKind.wrap .i64 (((4*i:Nat):Int)+3)=((4*i+3:Nat):Int):=by rw[wrap_i64 _ (by omega) (by omega)];omega
   have w4:IntKind.wrap .i64 (((4*i:Nat):Int)+4)=((4*(i+1):Nat):Int):=by rw[wrap_i64 _ (by omega) (by omega)];omega
   by_cases hlt:4*i+4<=l.length
   ·left;have d:(decide (((4*(i+1):Nat):Int)<=iN l.length)&&decide (iN o.length<65536))=true:=by simp only[iN,Ya,Yi];omega
    have i0:Zg ((4*i:Nat):Int) l.length=true:=Z0.2 ⟨by omega,by omega⟩;have i1:Zg ((4*i+1:Nat):Int) l.length=true:=Z0.2 ⟨by omega,by omega⟩;have i2:Zg ((4*i+2:Nat):Int) l.length=true:=Z0.2 ⟨by omega,by omega⟩;have i3:Zg ((4*i+3:Nat):Int) l.length=true:=Z0.2 ⟨by omega,by omega⟩;have hb:∀a:INPT,Nat.ble (o++[a]).length most=true:=λa=>ZaF (by simp;omega)
    have hv:∃x:INPT,(Zdw (l,((4*i:Nat):Int),o,())).val=some (Go1.cont (l,((4*(i+1):Nat):Int),o++[x],())):=by
     simp only[Zdw,RT.val,w1,w2,w3,w4,d,i0,i1,i2,i3,hb,ZbQ,ZaM,Yh,Yf,Yj,Yu,Yb,Yc];cases R.get (R.int .u8) l ((4*i+3:Nat):Int) !=ZgE (R.get (R.int .u8) l ((4*i:Nat):Int)) (R.get (R.int .u8) l ((4*i+1:Nat):Int)) (R.get (R.int .u8) l ((4*i+2:Nat):Int))
     ·exact⟨_,rfl⟩
     ·exact⟨_,rfl⟩
    obtain⟨x,hv⟩:=hv;exact⟨_,hv,⟨i+1,_,by omega,by simp;omega,rfl⟩,by simp only;omega⟩
   ·right;left;have d:(decide (((4*(i+1):Nat):Int)<=iN l.length)&&decide (iN o.length<65536))=false:=by simp only[iN,Yad,Y6];left;omega
    exact⟨(l,((4*i:Nat):Int),o,()),by simp only[Zdw,RT.val,w4,d,Yc],rfl,by simp only;omega⟩)
  (l,0,[],()) ⟨0,[],by omega,rfl,rfl⟩ (by simp only;omega)
 obtain⟨r1,r2⟩:=r;simp only at h0 h1;subst h0;have hv:(Zjd l).val=some r2.2.2.1:=by simp only[Zjd,RT.val,hr,okB,getO,Yb]
 exact⟨by simp only[ZmE,hv];rfl,by simp only[Zbm,hv,getO];exact h1⟩
abbrev MacT:=List Z5×List Cell×List Int×List (Int×Int)
theorem Znn (l:List Z5) (m:List Cell) (t v:Int):(ZaV l m t v).length<=m.length+1:=by
 have h:=ZeQ m;unfold ZaV;cases decide (Zbl l t>=0)&&(R.get GR l (Zbl l t)).2.2.1
 ·exact YS h (YaN _)
 ·exact YS (Zwn _ _) (by omega)
def pre (o:List (Int×Int)) (m:MacT):MacT:=(m.1,m.2.1,m.2.2.1,o++m.2.2.2)
