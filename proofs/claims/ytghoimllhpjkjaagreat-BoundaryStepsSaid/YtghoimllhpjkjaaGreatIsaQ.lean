import Derived.Test.YtghoimllhpjkjaaGreatS3New
import Derived.Test.YtghoimllhpjkjaaGreatRunL
open Go.Proofs.Tryz (prog)
open Go.IntKind (u8 u16 i64)
set_option linter.unusedSimpArgs false
open Go Go.S3 Go.Proofs
set_option linter.unusedVariables false
set_option maxRecDepth 100000
namespace Go.Proofs.YtghoimllhpjkjaaGreat
noncomputable section
abbrev Ztf:R:=R.Pq (R.int u16) (R.int u8)
abbrev Ztg:Nat:=106
abbrev ZBg:List Sh:=[Sh.one rcCE,Sh.agg (R.Pq (R.int u16) (R.int u8))]
def ZUB:LS:={n:=53,Sl:=[(3,.fix (A.loc 0 0)),(5,.tip 0),(6,.code (Sh.one R.bool)),(9,.code (Sh.one rcCE)),(10,.code (Sh.one (R.int i64))),(11,.code (Sh.one (R.int i64)))],Bx:=[[.many (R.Pq (R.int u16) (R.int u8))]],Sg:=[⟨(R.Pq (R.int u16) (R.int u8)),106,false⟩]}
def ZGq (a:QT9):RT (Option (Go1 (QT9))):=
 let x1:Int×Int:=R.get (R.Pq (R.int u16) (R.int u8)) a.2.1 a.2.2.2.1
 let x2:=x1.1
 let x3:= !a.1&&decide (x2>=a.2.2.2.2.1.1)
 let x4:List (Int×Int):=a.2.2.2.2.2.1++[a.2.2.2.2.1]
 let x5:= !x3||(!a.2.2.2.2.1.2 !=0||Nat.ble (List.length x4) most)
 let x6:=x2 !=a.2.2.2.2.1.1
 let x7:List (Int×Int):=bif x3 then bif a.2.2.2.2.1.2 !=0 then x4 else a.2.2.2.2.2.1 else a.2.2.2.2.2.1
 let x8:List (Int×Int):=x7++[x1]
 .br (decide (a.2.2.2.1<a.2.2.1)) (.br (!Ze a.2.2.2.1 (List.length a.2.1)||(!x5||(!x6||Nat.ble (List.length x8) most))) (.br (!Ze a.2.2.2.1 (List.length a.2.1)||x5) (.br (Ze a.2.2.2.1 (List.length a.2.1)) (.Lf (some (Go1.cont (x3||a.1,a.2.1,a.2.2.1,i64.wrap (a.2.2.2.1+1),a.2.2.2.2.1,bif x6 then x8 else x7,PUnit.unit)))) (.Lf none)) (.Lf none)) (.Lf none)) (.Lf (some (Go1.brk (a.1,a.2.1,a.2.2.1,a.2.2.2.1,a.2.2.2.2.1,a.2.2.2.2.2.1,PUnit.unit))))
def ZGr:Ora:=Za2 false ZUB ZGq (λa=>1000000000000)
theorem ZJk:ZaH (envX prog [] [] 511 8) (.block 0 (.loop (Z7 Tryz.f149.body 0))) ZGr:=
 loopP trivial
def ZGp (m:List (Int×Int)) (c:Int×Int):RT (Option (List (Int×Int))):=
 let x1:QT9:=(false,m,iN (List.length m),0,c,[],())
 let x2:=runF false ZGq (λa=>1000000000000) x1
 let x3:QT9:=(getO (false,x1) x2).2
 let x4:=x3.2.2.2.2
 let x5:=x4.1
 let x6:= !x3.1&&x5.2 !=0
 let x7:=x4.2.1
 let x8:List (Int×Int):=x7++[x5]
 .br (okB x2) (.br (!x6||Nat.ble (List.length x8) most) (.Lf (some (bif x6 then x8 else x7))) (.Lf none)) (.Lf none)
def ZUC (m:List (Int×Int)) (c:Int×Int):List (Int×Int):=getO [] (ZGp m c).val
def ZGs (m:List (Int×Int)) (c:Int×Int):Bool:=okB (ZGp m c).val
def ZOK:En:=frzE (newE Ztf Ztg ZBg (λa=>some (ZGs a.1 a.2)) (λa=>ZUC a.1 a.2))
theorem ZOL:Za prog 149 (newE Ztf Ztg ZBg (λa=>some (ZGs a.1 a.2)) (λa=>ZUC a.1 a.2)):=
 ZlO (P:=prog) (n:=511) (k:=8) (l:=[]) (ol:=[(0,ZGr)]) trivial Tryz.func149 rfl (by kernel_rfl) Tryz.call149 ⟨ZJk,Tv⟩ (r:=Ztf) (T:=Ztg) (ts:=ZBg) (t:=λa=>ZGp a.1 a.2) (λa=>by kernel_rfl)
theorem ZGo:Za prog 149 ZOK:=ZzK ZOL
abbrev Zlz:R:=R.Pq (R.int u16) (R.int u8)
abbrev ZlA:Nat:=106
abbrev Ztn:List Sh:=[Sh.one rcCE]
def ZO5:LS:={n:=21,Sl:=[(3,.tip 0),(10,.code (Sh.one rcCE)),(11,.code (Sh.one (R.int i64))),(12,.code (Sh.one (R.int i64)))],Bx:=[],Sg:=[⟨(R.Pq (R.int u16) (R.int u8)),106,false⟩]}
def Zgr (a:List (Int×Int)×Int×Int×List (Int×Int)×PUnit):RT (Option (Go1 (List (Int×Int)×Int×Int×List (Int×Int)×PUnit))):=
 .br (decide (a.2.2.1<a.2.1)) (.br (!Ze a.2.2.1 (List.length a.1)||ZGs a.2.2.2.1 (R.get (R.Pq (R.int u16) (R.int u8)) a.1 a.2.2.1)) (.br (Ze a.2.2.1 (List.length a.1)) (.Lf (some (Go1.cont (a.1,a.2.1,i64.wrap (a.2.2.1+1),Stg.l (newG Ztf Ztg (ZUC a.2.2.2.1 (R.get (R.Pq (R.int u16) (R.int u8)) a.1 a.2.2.1))),PUnit.unit)))) (.Lf none)) (.Lf none)) (.Lf (some (Go1.brk (a.1,a.2.1,a.2.2.1,a.2.2.2.1,PUnit.unit))))
def Zyb:Ora:=Za2 false ZO5 Zgr (λa=>1000000000000)
theorem ZBp:ZaH (envX prog [(44,Zlt),(149,ZOK)] [] 63 8) (.block 0 (.loop (Z7 Tryz.f92.body 0))) Zyb:=
 loopP ⟨ZjY,ZGo,Tv⟩
def Zj0 (l:List (Int×Int)):RT (Option (List (Int×Int))):=
 let x1:=runF false Zgr (λa=>1000000000000) (l,iN (List.length l),0,[],())
 .br (smC l) (.br (!vldB l||Nat.ble (List.length ([]++l)) most) (.br (vldB l) (.Lf (some ([]++l))) (.br (okB x1) (.Lf (some (getO (false,l,iN (List.length l),0,[],()) x1).2.2.2.2.1)) (.Lf none))) (.Lf none)) (.Lf none)
def Zyc (l:List (Int×Int)):List (Int×Int):=getO [] (Zj0 l).val
def Zm1 (l:List (Int×Int)):Bool:=okB (Zj0 l).val
def ZBq:En:=frzE (newE Zlz ZlA Ztn (λa=>some (Zm1 a)) (λa=>Zyc a))
theorem ZJn:Za prog 92 (newE Zlz ZlA Ztn (λa=>some (Zm1 a)) (λa=>Zyc a)):=
 ZlO (P:=prog) (n:=63) (k:=8) (l:=[(44,Zlt),(149,ZOK)]) (ol:=[(0,Zyb)]) ⟨ZjY,ZGo,Tv⟩ Tryz.func92 rfl (by kernel_rfl) Tryz.call92 ⟨ZBp,Tv⟩ (r:=Zlz) (T:=ZlA) (ts:=Ztn) (t:=λa=>Zj0 a) (λa=>by kernel_rfl)
theorem Zya:Za prog 92 ZBq:=ZzK ZJn
abbrev Zg9:R:=R.Pq (R.int u16) (R.int u8)
abbrev Zha:Nat:=106
abbrev Zty:List Sh:=[Sh.one (R.int u16),Sh.one (R.sl (R.int u8))]
def ZPc:LS:={n:=27,Sl:=[(0,.code (Sh.one (R.int u16))),(1,.code (Sh.one (R.sl (R.int u8)))),(5,.tip 0),(8,.code (Sh.one (R.int i64))),(9,.code (Sh.one (R.int i64)))],Bx:=[],Sg:=[⟨(R.Pq (R.int u16) (R.int u8)),106,true⟩]}
def Zgs (a:QT30):RT (Option (Go1 (QT30))):=
 let x1:List (Int×Int):=a.2.2.2.2.1++[(u16.wrap (a.1+u16.wrap a.2.2.2.1),R.get (R.int u8) a.2.1 a.2.2.2.1)]
 let x2:= !Ze a.2.2.2.1 (List.length a.2.1)||Nat.ble (List.length x1) most
 .br (decide (a.2.2.2.1<a.2.2.1)) (.br (!x2||Ze a.2.2.2.1 (List.length a.2.1)) (.br (x2) (.Lf (some (Go1.cont (a.1,a.2.1,a.2.2.1,i64.wrap (a.2.2.2.1+1),x1,PUnit.unit)))) (.Lf none)) (.Lf none)) (.Lf (some (Go1.brk (a.1,a.2.1,a.2.2.1,a.2.2.2.1,a.2.2.2.2.1,PUnit.unit))))
def Zyd:Ora:=Za2 false ZPc Zgs (λa=>1000000000000)
theorem ZB4:ZaH (envX prog [(92,ZBq)] [] 127 8) (.block 0 (.loop (Z7 Tryz.f32.body 0))) Zyd:=
 loopP ⟨Zya,Tv⟩
def ZnG (t:Int) (b:List Int):RT (Option (List (Int×Int))):=
 let x1:=runF false Zgs (λa=>1000000000000) (t,b,iN (List.length b),0,[],())
 let x2:List (Int×Int):=(getO (false,t,b,iN (List.length b),0,[],()) x1).2.2.2.2.2.1
 .br (okB x1) (.br (Zm1 x2) (.Lf (some (Stg.l (newG Zlz ZlA (Zyc x2))))) (.Lf none)) (.Lf none)
def ZPd (t:Int) (b:List Int):List (Int×Int):=getO [] (ZnG t b).val
def ZB5 (t:Int) (b:List Int):Bool:=okB (ZnG t b).val
theorem ZJA:Za prog 32 (newE Zg9 Zha Zty (λa=>some (ZB5 a.1 a.2)) (λa=>ZPd a.1 a.2)):=
 ZlO (P:=prog) (n:=127) (k:=8) (l:=[(92,ZBq)]) (ol:=[(0,Zyd)]) ⟨Zya,Tv⟩ Tryz.func32 rfl (by kernel_rfl) Tryz.call32 ⟨ZB4,Tv⟩ (r:=Zg9) (T:=Zha) (ts:=Zty) (t:=λa=>ZnG a.1 a.2) (λa=>by kernel_rfl)
end
end Go.Proofs.YtghoimllhpjkjaaGreat
open Go Go.S3 Go.Proofs Go.Proofs.Cells
namespace Go.Proofs.YtghoimllhpjkjaaGreat
noncomputable section
theorem ZOe (m:List Cell) (c:Cell) (hv:Vld m) (hm:m.length+1<=most):ZGs m c=true/\ZUC m c=putX m c:=by have h:=ZmG m c hv hm;have e:ZGp m c=Zrg m c:=rfl;simp only[Zrh,ZJm,<-e] at h;exact h
theorem ZI5 (l:List Cell) (hl:l.length+1<=most):Zm1 l=true/\Zyc l=normX l:=by
 have hms:=mst;have hs:smC l=true:=(ZkM.2 hl:sm l=true);have hv:(Zj0 l).val=some (normX l):=by
  cases hb:vldB l with
  |true=>
   have e:Nat.ble l.length most=true:=by rw[YH];omega
   simp only[Zj0,RT.val,hs,hb,List.nil_append,e,Ya,Yf,Yj,Zfb (Zlk.1 hb)]
  |false=>
   obtain⟨r,hr,h1,i,hR⟩:=ZH (fl:=false) (t:=Zgr) (fuel:=λa=>1000000000000)
    (λa=>∃i:Nat,i<=l.length/\a=(l,(l.length:Int),(i:Int),normX (l.take i),()))
    (λa=>Int.toNat (a.2.1-a.2.2.1)) (λr=>r.1=false/\∃i:Nat,r.2=(l,(l.length:Int),(i:Int),normX l,()))
    (by
     rintro a ⟨i,hi,rfl⟩;by_cases hlt:i<l.length
     ·left;have d:decide ((i:Int)<(l.length:Int))=true:=by simpa using hlt
      have r1:=ZaE l i hlt;have hlen:=ZbU (l.take i);rw[YD] at hlen;have hp:=ZOe (normX (l.take i)) (el l i) (Zdm _) (by omega);refine⟨_,?_,⟨i+1,hlt,rfl⟩,by simp only;omega⟩;rw[ZAE l i hlt,Zkd];simp only[Zgr,RT.val,d,r1,Zcn,hp.1,hp.2,Ya,Yh,ZhI i (by omega)]
     ·right;left;have d:decide ((i:Int)<(l.length:Int))=false:=by simpa using hlt
      have e:l.take i=l:=Y5 (by omega);rw[e]
      exact⟨_,by simp only[Zgr,RT.val,d,Yb],rfl,i,rfl⟩)
    (l,iN l.length,0,[],()) ⟨0,Yu _,rfl⟩ (by simp only[iN];omega)
   obtain⟨r1,r2⟩:=r;simp only at h1 hR;subst h1 hR;simp only[Zj0,RT.val,hs,hb,hr,okB,getO,Ya,Yb,Yk,Ys]
 exact⟨by simp only[Zm1,hv];rfl,by simp only[Zyc,hv,getO]⟩
theorem ZI6 (t:Int) (b:List Int) (hb:b.length+1<=most):ZB5 t b=true/\ZPd t b=Zqu t b:=by
 have hms:=mst;obtain⟨r,hr,h1,hR⟩:=ZH (fl:=false) (t:=Zgs) (fuel:=λa=>1000000000000)
  (λa=>∃i:Nat,i<=b.length/\a=(t,b,(b.length:Int),(i:Int),Zpv t b i,()))
  (λa=>Int.toNat (a.2.2.1-a.2.2.2.1)) (λr=>r.1=false/\r.2=(t,b,(b.length:Int),(b.length:Int),Zpv t b b.length,()))
  (by
   rintro a ⟨i,hi,rfl⟩;by_cases hlt:i<b.length
   ·left;have d:decide ((i:Int)<(b.length:Int))=true:=by simpa using hlt
    have r1:=ZaE b i hlt;have hl:∀x:Cell,Nat.ble (Zpv t b i++[x]).length most=true:=λx=>by rw[YH,Yd,Zpu];simp only[List.length_singleton];omega
    refine⟨_,?_,⟨i+1,hlt,rfl⟩,by simp only;omega⟩;rw[ZLI];have g:=get_d b i;simp only[Zgs,RT.val,d,r1,g,hl,Ya,Yf,Yj,ZhI i (by omega)]
   ·right;left;have d:decide ((i:Int)<(b.length:Int))=false:=by simpa using hlt
    have e:i=b.length:=by omega
    subst e
    exact⟨_,by simp only[Zgs,RT.val,d,Yb],rfl,rfl⟩)
  (t,b,iN b.length,0,[],()) ⟨0,Yu _,rfl⟩ (by simp only[iN];omega)
 obtain⟨r1,r2⟩:=r;simp only at h1 hR;subst h1 hR;have hn:=ZI5 (Zpv t b b.length) (by rw[Zpu];exact hb);have hv:(ZnG t b).val=some (Zqu t b):=by simp only[ZnG,RT.val,hr,okB,getO,Ya,hn.1,hn.2,Zqu]
 exact⟨by simp only[ZB5,hv];rfl,by simp only[ZPd,hv,getO]⟩
def Ztz:En:=frzE (newE Zg9 Zha Zty (λa=>some (smB a.2)) (λa=>Zqu a.1 a.2))
theorem Zro:Za Tryz.prog 32 Ztz:=ZzK (ZLs ZJA λa _ h=>by
 have hb:smB a.2=true:=by cases hq:smB a.2 with
  |true=>rfl
  |false=>rw[hq] at h;exact absurd rfl h
 obtain⟨h1,h2⟩:=ZI6 a.1 a.2 (ZkM.1 hb)
 exact⟨by rw[h1];simp,h2⟩)
abbrev ZEa:R:=R.Pq (R.sl (R.int i64)) (R.int i64)
abbrev ZRV:List Sh:=[]
abbrev ZD9:Rs:=Rs.one (Sh.one R.bool)
def ZHS (s:List Int×Int):RT (Option (Bool×List Int×Int)):=
 .br (Zl s 2) (.Lf (some (((Zd s 2).1==1,(Zd s 2).2)))) (.Lf none)
def Zal (s:List Int×Int):Bool×List Int×Int:=getO (ZD9.Df,ZEa.Df) (ZHS s).val
def Zbo (s:List Int×Int):Bool:=okB (ZHS s).val
def ZX7:En:=boxE ZEa ZRV ZD9 (λa=>some (Zbo a.1)) (λa=>Zal a.1)
theorem ZVJ:Za prog 74 ZX7:=
 Zcr (P:=prog) (n:=7) (k:=8) (l:=[(46,ZcH)]) (ol:=[]) ⟨Zbc,Tv⟩ Tryz.func74 rfl (by kernel_rfl) Tryz.call74 trivial (rb:=ZEa) (ts:=ZRV) (rs:=ZD9) (t:=λa=>ZHS a.1) (λa=>by kernel_rfl)
abbrev ZdW:R:=R.Pq (R.int u16) (R.Pq (R.int u16) (R.Pq R.bool (R.int i64)))
abbrev ZdX:Nat:=102
abbrev Zhh:R:=R.Pq (R.sl (R.int i64)) (R.int i64)
abbrev Zke:List Sh:=[Sh.one (R.int i64)]
def ZD2:LS:={n:=44,Sl:=[(0,.fix (A.loc 0 0)),(5,.tip 0),(6,.code (Sh.one (R.int i64)))],Bx:=[[.many (R.Pq (R.sl (R.int i64)) (R.int i64))]],Sg:=[⟨(R.Pq (R.int u16) (R.Pq (R.int u16) (R.Pq R.bool (R.int i64)))),102,false⟩]}
def ZbW (a:QT20):RT (Option (Go1 (QT20))):=
 let x1:= !Zl (ZaS a.2.1).2 6||Ze (Zd (ZaS a.2.1).2 6).1 (List.length [0,3,15,255,4095,65535])
 let x2:= !x1
 let x3:= !Zl (Zd (Zd (ZaS a.2.1).2 6).2 3).2 5
 let x4:Int:=(Zd (Zd (Zd (ZaS a.2.1).2 6).2 3).2 5).1
 let x5:=Ze x4 (List.length [0,0,1,2,5])
 let x6:=i64.wrap (i64.wrap (ZaS a.2.1).1+R.get (R.int i64) [0,3,15,255,4095,65535] (Zd (ZaS a.2.1).2 6).1)
 let x7:List (QT3):=a.2.2.1++[((ZaS a.2.1).1,u16.wrap (if 65535<x6 then 65535 else x6),decide ((Zd (Zd (ZaS a.2.1).2 6).2 3).1>0),R.get (R.int i64) [0,0,1,2,5] x4)]
 let x8:= !Zl (Zd (ZaS a.2.1).2 6).2 3||(x3||(!x5||Nat.ble (List.length x7) most))
 let x9:= !x8
 let x10:= !Zl (Zd (ZaS a.2.1).2 6).2 3||(x3||x5)
 let x11:= !x10
 let x12:= !Zl (Zd (ZaS a.2.1).2 6).2 3||Zl (Zd (Zd (ZaS a.2.1).2 6).2 3).2 5
 .br (decide (a.1>0)) (.br (!ZfV a.2.1||(x2||(!Zl (ZaS a.2.1).2 6||(x9||(x11||(!x12||Zl (Zd (ZaS a.2.1).2 6).2 3)))))) (.br (!ZfV a.2.1||(x2||(!Zl (ZaS a.2.1).2 6||(x9||(x11||x12))))) (.br (!ZfV a.2.1||(x2||(!Zl (ZaS a.2.1).2 6||(x9||x10)))) (.br (!ZfV a.2.1||(x2||(!Zl (ZaS a.2.1).2 6||x8))) (.br (!ZfV a.2.1||(x2||Zl (ZaS a.2.1).2 6)) (.br (!ZfV a.2.1||x1) (.br (ZfV a.2.1) (.Lf (some (Go1.cont (i64.wrap (a.1-1),(Zd (Zd (Zd (ZaS a.2.1).2 6).2 3).2 5).2,x7,PUnit.unit)))) (.Lf none)) (.Lf none)) (.Lf none)) (.Lf none)) (.Lf none)) (.Lf none)) (.Lf none)) (.Lf (some (Go1.brk (a.1,a.2.1,a.2.2.1,PUnit.unit))))
def Zo0:Ora:=Za2 false ZD2 ZbW (λa=>400)
theorem ZvQ:ZaH (envX prog [(46,ZcH),(137,ZRP)] [] 511 8) (.block 0 (.loop (Z7 Tryz.f151.body 0))) Zo0:=
 loopP ⟨Zbc,ZHN,Tv⟩
def Zep (s:List Int×Int) (n:Int):RT (Option (List (QT3)×List Int×Int)):=
 let x1:QT20:=((Zd s (i64.wrap (n+1))).1,(Zd s (i64.wrap (n+1))).2,[],())
 let x2:=runF false ZbW (λa=>400) x1
 let x3:(List Int×Int)×List (QT3)×PUnit:=(getO (false,x1) x2).2.2
 .br (Zl s (i64.wrap (n+1))) (.br (okB x2) (.Lf (some ((x3.2.1,x3.1)))) (.Lf none)) (.Lf none)
def Z4 (s:List Int×Int) (n:Int):List (QT3)×List Int×Int:=getO ([],Zhh.Df) (Zep s n).val
def ZbX (s:List Int×Int) (n:Int):Bool:=okB (Zep s n).val
def ZyX:En:=frzE (ZLu Zhh ZdW ZdX Zke (λa=>some (ZbX a.1 a.2)) (λa=>Z4 a.1 a.2))
theorem ZyY:Za prog 151 (ZLu Zhh ZdW ZdX Zke (λa=>some (ZbX a.1 a.2)) (λa=>Z4 a.1 a.2)):=
 ZRL (P:=prog) (n:=511) (k:=8) (l:=[(46,ZcH),(137,ZRP)]) (ol:=[(0,Zo0)]) ⟨Zbc,ZHN,Tv⟩ Tryz.func151 rfl (by kernel_rfl) Tryz.call151 ⟨ZvQ,Tv⟩ (rb:=Zhh) (r:=ZdW) (T:=ZdX) (ts:=Zke) (t:=λa=>Zep a.1 a.2) (λa=>by kernel_rfl)
theorem ZD0:Za prog 151 ZyX:=ZzK ZyY
abbrev ZRT:R:=R.Pq (R.sl (R.int i64)) (R.int i64)
abbrev ZX6:List Sh:=[]
abbrev ZRS:Rs:=Rs.one (Sh.one rcRG)
def ZD8 (s:List Int×Int):RT (Option (List (QT3)×List Int×Int)):=
 let x1:List (QT3):=Stg.l (newG ZdW ZdX (Z4 s 2).1)++[(0,65535,true,i64.wrap (Int.tdiv (Zd (Z4 s 2).2 3).1 2))]
 .br (!ZbX s 2||(!Zl (Z4 s 2).2 3||Nat.ble (List.length x1) most)) (.br (!ZbX s 2||Zl (Z4 s 2).2 3) (.br (ZbX s 2) (.Lf (some ((x1,(Zd (Z4 s 2).2 3).2)))) (.Lf none)) (.Lf none)) (.Lf none)
def nMap (s:List Int×Int):List (QT3)×List Int×Int:=getO (ZRS.Df,ZRT.Df) (ZD8 s).val
def ZLx (s:List Int×Int):Bool:=okB (ZD8 s).val
def Z0I:En:=boxE ZRT ZX6 ZRS (λa=>some (ZLx a.1)) (λa=>nMap a.1)
theorem ZRR:Za prog 95 Z0I:=
 Zcr (P:=prog) (n:=7) (k:=8) (l:=[(46,ZcH),(151,ZyX)]) (ol:=[]) ⟨Zbc,ZD0,Tv⟩ Tryz.func95 rfl (by kernel_rfl) Tryz.call95 trivial (rb:=ZRT) (ts:=ZX6) (rs:=ZRS) (t:=λa=>ZD8 a.1) (λa=>by kernel_rfl)
abbrev Zkg:R:=R.Pq (R.sl (R.int i64)) (R.int i64)
abbrev ZrM:List Sh:=[Sh.one (R.int i64)]
abbrev Zkf:Rs:=Rs.one (Sh.one (R.sl (R.int u8)))
def ZD4:LS:={n:=75,Sl:=[(0,.fix (A.loc 0 0)),(5,.tip 0),(6,.code (Sh.one (R.int i64)))],Bx:=[[.many (R.Pq (R.sl (R.int i64)) (R.int i64))]],Sg:=[⟨(R.int u8),5,true⟩]}
def Zc3 (a:QT27):RT (Option (Go1 (QT27))):=
 let x1:=Ze (Zd (Zd a.2.1 8).2 4).1 (List.length [33,49,1,17])
 let x2:= !x1
 let x3:=Zl (Zd (Zd (Zd a.2.1 8).2 4).2 256).2 4
 let x4:= !x3
 let x5:=Zd (Zd (Zd (Zd a.2.1 8).2 4).2 256).2 4
 let x6:=x5.1
 let x7:=Ze x6 (List.length [0,0,1,255])
 let x8:List Int:=a.2.2.1++[R.get (R.int u8) [33,49,1,17] (Zd (Zd a.2.1 8).2 4).1,u8.wrap (Zd (Zd (Zd a.2.1 8).2 4).2 256).1,R.get (R.int u8) [0,0,1,255] x6]
 let x9:= !(Zd a.2.1 8).1==0||(!Zl (Zd a.2.1 8).2 4||(x2||(!Zl (Zd (Zd a.2.1 8).2 4).2 256||(x4||(!x7||Nat.ble (List.length x8) most)))))
 let x10:= !x9
 let x11:= !(Zd a.2.1 8).1==0||(!Zl (Zd a.2.1 8).2 4||(x2||(!Zl (Zd (Zd a.2.1 8).2 4).2 256||(x4||x7))))
 let x12:= !x11
 let x13:= !(Zd a.2.1 8).1==0||(!Zl (Zd a.2.1 8).2 4||(x2||(!Zl (Zd (Zd a.2.1 8).2 4).2 256||x3)))
 let x14:= !x13
 let x15:= !(Zd a.2.1 8).1==0||(!Zl (Zd a.2.1 8).2 4||(x2||Zl (Zd (Zd a.2.1 8).2 4).2 256))
 let x16:= !x15
 let x17:= !(Zd a.2.1 8).1==0||(!Zl (Zd a.2.1 8).2 4||x1)
 let x18:= !x17
 let x19:= !(Zd a.2.1 8).1==0||Zl (Zd a.2.1 8).2 4
 let x20:= !x19
 let x21:List Int:=a.2.2.1++[62,(ZcP (Zd a.2.1 8).2).1,211,u8.wrap (Zd (ZcP (Zd a.2.1 8).2).2 8).1]
 let x22:=(Zd a.2.1 8).1==0||(!(Zd a.2.1 8).1==1||(!ZgG (Zd a.2.1 8).2||(!Zl (ZcP (Zd a.2.1 8).2).2 8||Nat.ble (List.length x21) most)))
 let x23:= !x22
 let x24:=(Zd a.2.1 8).1==0||(!(Zd a.2.1 8).1==1||(!ZgG (Zd a.2.1 8).2||Zl (ZcP (Zd a.2.1 8).2).2 8))
 let x25:= !x24
 let x26:=(Zd a.2.1 8).1==0||(!(Zd a.2.1 8).1==1||ZgG (Zd a.2.1 8).2)
 let x27:= !x26
 let x28:=(Zd a.2.1 8).1==0||((Zd a.2.1 8).1==1||(!(Zd a.2.1 8).1==2||Nat.ble (List.length (a.2.2.1++[251])) most))
 let x29:= !x28
 let x30:List Int:=a.2.2.1++[62,u8.wrap (i64.wrap (16+(Zd (Zd a.2.1 8).2 16).1)),211,0,62,(ZcP (Zd (Zd a.2.1 8).2 16).2).1,211,1,62,0,211,1]
 let x31:=(Zd a.2.1 8).1==0||((Zd a.2.1 8).1==1||((Zd a.2.1 8).1==2||(!(Zd a.2.1 8).1==3||(!Zl (Zd a.2.1 8).2 16||(!ZgG (Zd (Zd a.2.1 8).2 16).2||Nat.ble (List.length x30) most)))))
 let x32:= !x31
 let x33:=(Zd a.2.1 8).1==0||((Zd a.2.1 8).1==1||((Zd a.2.1 8).1==2||(!(Zd a.2.1 8).1==3||(!Zl (Zd a.2.1 8).2 16||ZgG (Zd (Zd a.2.1 8).2 16).2))))
 let x34:= !x33
 let x35:=(Zd a.2.1 8).1==0||((Zd a.2.1 8).1==1||((Zd a.2.1 8).1==2||(!(Zd a.2.1 8).1==3||Zl (Zd a.2.1 8).2 16)))
 let x36:= !x35
 let x37:= !Zl (Zd (Zas (Zd a.2.1 8).2).2 64).2 4
 let x38:Int:=(Zd (Zd (Zas (Zd a.2.1 8).2).2 64).2 4).1
 let x39:=Ze x38 (List.length [0,0,1,255])
 let x40:List Int:=a.2.2.1++[(Zas (Zd a.2.1 8).2).1,u8.wrap (Zd (Zas (Zd a.2.1 8).2).2 64).1,R.get (R.int u8) [0,0,1,255] x38]
 let x41:=(Zd a.2.1 8).1==0||((Zd a.2.1 8).1==1||((Zd a.2.1 8).1==2||((Zd a.2.1 8).1==3||(!Zcb (Zd a.2.1 8).2||(!Zl (Zas (Zd a.2.1 8).2).2 64||(x37||(!x39||Nat.ble (List.length x40) most)))))))
 let x42:= !x41
 let x43:=(Zd a.2.1 8).1==0||((Zd a.2.1 8).1==1||((Zd a.2.1 8).1==2||((Zd a.2.1 8).1==3||(!Zcb (Zd a.2.1 8).2||(!Zl (Zas (Zd a.2.1 8).2).2 64||(x37||x39))))))
 let x44:= !x43
 let x45:=(Zd a.2.1 8).1==0||((Zd a.2.1 8).1==1||((Zd a.2.1 8).1==2||((Zd a.2.1 8).1==3||(!Zcb (Zd a.2.1 8).2||(!Zl (Zas (Zd a.2.1 8).2).2 64||Zl (Zd (Zas (Zd a.2.1 8).2).2 64).2 4)))))
 let x46:= !x45
 let x47:=(Zd a.2.1 8).1==0||((Zd a.2.1 8).1==1||((Zd a.2.1 8).1==2||((Zd a.2.1 8).1==3||(!Zcb (Zd a.2.1 8).2||Zl (Zas (Zd a.2.1 8).2).2 64))))
 let x48:=x10||(x12||(x14||(x16||(x18||(x20||(x23||(x25||(x27||(x29||(x32||(x34||(x36||(x42||(x44||(x46||(!x47||((Zd a.2.1 8).1==0||((Zd a.2.1 8).1==1||((Zd a.2.1 8).1==2||((Zd a.2.1 8).1==3||Zcb (Zd a.2.1 8).2))))))))))))))))))))
 let x49:= !x48
 let x50:=x10||(x12||(x14||(x16||(x18||(x20||(x23||(x25||(x27||(x29||(x32||(x34||(x36||(x42||(x44||(x46||x47)))))))))))))))
 let x51:= !x50
 let x52:=x10||(x12||(x14||(x16||(x18||(x20||(x23||(x25||(x27||(x29||(x32||(x34||(x36||(x42||(x44||x45))))))))))))))
 let x53:= !x52
 let x54:=x10||(x12||(x14||(x16||(x18||(x20||(x23||(x25||(x27||(x29||(x32||(x34||(x36||(x42||x43)))))))))))))
 let x55:= !x54
 let x56:=x10||(x12||(x14||(x16||(x18||(x20||(x23||(x25||(x27||(x29||(x32||(x34||(x36||x41))))))))))))
 let x57:= !x56
 let x58:=x10||(x12||(x14||(x16||(x18||(x20||(x23||(x25||(x27||(x29||(x32||(x34||x35)))))))))))
 let x59:= !x58
 let x60:=x10||(x12||(x14||(x16||(x18||(x20||(x23||(x25||(x27||(x29||(x32||x33))))))))))
 let x61:= !x60
 let x62:=x10||(x12||(x14||(x16||(x18||(x20||(x23||(x25||(x27||(x29||x31)))))))))
 let x63:= !x62
 let x64:=x10||(x12||(x14||(x16||(x18||(x20||(x23||(x25||(x27||x28))))))))
 let x65:= !x64
 let x66:=x10||(x12||(x14||(x16||(x18||(x20||(x23||(x25||x26)))))))
 let x67:= !x66
 let x68:=x10||(x12||(x14||(x16||(x18||(x20||(x23||x24))))))
 let x69:= !x68
 let x70:=x10||(x12||(x14||(x16||(x18||(x20||x22)))))
 let x71:= !x70
 let x72:=x10||(x12||(x14||(x16||(x18||x19))))
 let x73:= !x72
 let x74:=x10||(x12||(x14||(x16||x17)))
 let x75:= !x74
 let x76:=x10||(x12||(x14||x15))
 let x77:= !x76
 let x78:=x10||(x12||x13)
 let x79:= !x78
 let x80:=x10||x11
 let x81:List Int×Int:=(Zd (Zd (Zas (Zd a.2.1 8).2).2 64).2 4).2
 .br (decide (a.1>0)) (.br (!Zl a.2.1 8||(x49||(x51||(x53||(x55||(x57||(x59||(x61||(x63||(x65||(x67||(x69||(x71||(x73||(x75||(x77||(x79||(!x80||x9)))))))))))))))))) (.br (!Zl a.2.1 8||(x49||(x51||(x53||(x55||(x57||(x59||(x61||(x63||(x65||(x67||(x69||(x71||(x73||(x75||(x77||(x79||x80))))))))))))))))) (.br (!Zl a.2.1 8||(x49||(x51||(x53||(x55||(x57||(x59||(x61||(x63||(x65||(x67||(x69||(x71||(x73||(x75||(x77||x78)))))))))))))))) (.br (!Zl a.2.1 8||(x49||(x51||(x53||(x55||(x57||(x59||(x61||(x63||(x65||(x67||(x69||(x71||(x73||(x75||x76))))))))))))))) (.br (!Zl a.2.1 8||(x49||(x51||(x53||(x55||(x57||(x59||(x61||(x63||(x65||(x67||(x69||(x71||(x73||x74)))))))))))))) (.br (!Zl a.2.1 8||(x49||(x51||(x53||(x55||(x57||(x59||(x61||(x63||(x65||(x67||(x69||(x71||x72))))))))))))) (.br (!Zl a.2.1 8||(x49||(x51||(x53||(x55||(x57||(x59||(x61||(x63||(x65||(x67||(x69||x70)))))))))))) (.br (!Zl a.2.1 8||(x49||(x51||(x53||(x55||(x57||(x59||(x61||(x63||(x65||(x67||x68))))))))))) (.br (!Zl a.2.1 8||(x49||(x51||(x53||(x55||(x57||(x59||(x61||(x63||(x65||x66)))))))))) (.br (!Zl a.2.1 8||(x49||(x51||(x53||(x55||(x57||(x59||(x61||(x63||x64))))))))) (.br (!Zl a.2.1 8||(x49||(x51||(x53||(x55||(x57||(x59||(x61||x62)))))))) (.br (!Zl a.2.1 8||(x49||(x51||(x53||(x55||(x57||(x59||x60))))))) (.br (!Zl a.2.1 8||(x49||(x51||(x53||(x55||(x57||x58)))))) (.br (!Zl a.2.1 8||(x49||(x51||(x53||(x55||x56))))) (.br (!Zl a.2.1 8||(x49||(x51||(x53||x54)))) (.br (!Zl a.2.1 8||(x49||(x51||x52))) (.br (!Zl a.2.1 8||(x49||x50)) (.br (!Zl a.2.1 8||x48) (.br (Zl a.2.1 8) (.br ((Zd a.2.1 8).1==0) (.Lf (some (Go1.cont (i64.wrap (a.1-1),x5.2,x8,PUnit.unit)))) (.br ((Zd a.2.1 8).1==1) (.Lf (some (Go1.cont (i64.wrap (a.1-1),(Zd (ZcP (Zd a.2.1 8).2).2 8).2,x21,PUnit.unit)))) (.br ((Zd a.2.1 8).1==2) (.Lf (some (Go1.cont (i64.wrap (a.1-1),(Zd a.2.1 8).2,a.2.2.1++[251],PUnit.unit)))) (.Lf (some (Go1.cont (i64.wrap (a.1-1),(bif (Zd a.2.1 8).1==3 then (ZcP (Zd (Zd a.2.1 8).2 16).2).2.1 else x81.1,bif (Zd a.2.1 8).1==3 then (ZcP (Zd (Zd a.2.1 8).2 16).2).2.2 else x81.2),bif (Zd a.2.1 8).1==3 then x30 else x40,PUnit.unit))))))) (.Lf none)) (.Lf none)) (.Lf none)) (.Lf none)) (.Lf none)) (.Lf none)) (.Lf none)) (.Lf none)) (.Lf none)) (.Lf none)) (.Lf none)) (.Lf none)) (.Lf none)) (.Lf none)) (.Lf none)) (.Lf none)) (.Lf none)) (.Lf none)) (.Lf none)) (.Lf (some (Go1.brk (a.1,a.2.1,a.2.2.1,PUnit.unit))))
def Zo2:Ora:=Za2 false ZD4 Zc3 (λa=>400)
theorem ZvR:ZaH (envX prog [(46,ZcH),(108,Zy3),(109,Zhi)] [] 9511883889056940159 8) (.block 0 (.loop (Z7 Tryz.f47.body 0))) Zo2:=
 loopP ⟨Zbc,ZlP,Zfc,Tv⟩
def ZgE (s:List Int×Int) (n:Int):RT (Option (List Int×List Int×Int)):=
 let x1:QT27:=((Zd s (i64.wrap (n+1))).1,(Zd s (i64.wrap (n+1))).2,[],())
 let x2:=runF false Zc3 (λa=>400) x1
 let x3:(List Int×Int)×List Int×PUnit:=(getO (false,x1) x2).2.2
 .br (Zl s (i64.wrap (n+1))) (.br (okB x2) (.Lf (some ((x3.2.1,x3.1)))) (.Lf none)) (.Lf none)
def Zca (s:List Int×Int) (n:Int):List Int×List Int×Int:=getO (Zkf.Df,Zkg.Df) (ZgE s n).val
def ZgF (s:List Int×Int) (n:Int):Bool:=okB (ZgE s n).val
def Zo3:En:=boxE Zkg ZrM Zkf (λa=>some (ZgF a.1 a.2)) (λa=>Zca a.1 a.2)
theorem Zo1:Za prog 47 Zo3:=
 Zcr (P:=prog) (n:=9511883889056940159) (k:=8) (l:=[(46,ZcH),(108,Zy3),(109,Zhi)]) (ol:=[(0,Zo2)]) ⟨Zbc,ZlP,Zfc,Tv⟩ Tryz.func47 rfl (by kernel_rfl) Tryz.call47 ⟨ZvR,Tv⟩ (rb:=Zkg) (ts:=ZrM) (rs:=Zkf) (t:=λa=>ZgE a.1 a.2) (λa=>by kernel_rfl)
abbrev ZvV:R:=R.Pq (R.sl (R.int i64)) (R.int i64)
abbrev ZHU:List Sh:=[]
abbrev ZvU:Rs:=Rs.one (Sh.agg (R.Pq (R.int i64) (R.Pq rcRG (R.Pq (R.int i64) (R.Pq (R.int u8) (R.Pq (R.int u8) (R.Pq R.bool rcCE)))))))
def ZR0:LS:={n:=50,Sl:=[(0,.fix (A.loc 0 0)),(2,.fix (A.loc 1 0)),(3,.fix (A.loc 2 0)),(4,.tip 0),(5,.code (Sh.one (R.int i64)))],Bx:=[[.many (R.Pq (R.sl (R.int i64)) (R.int i64))],[.many (R.Pq (R.int i64) (R.Pq rcRG (R.Pq (R.int i64) (R.Pq (R.int u8) (R.Pq (R.int u8) (R.Pq R.bool rcCE))))))],[.many (R.Pq (R.int i64) (R.Pq rcRG (R.Pq (R.int i64) (R.Pq (R.int u8) (R.Pq (R.int u8) (R.Pq R.bool rcCE))))))]],Sg:=[⟨R.Pq (R.int u16) (R.int u8),106,true⟩]}
def Zfe (a:QT19):RT (Option (Go1 (QT19))):=
 let x1:=Ze (Zd a.2.1 6).1 (List.length [36,60,52,44,56,32])
 let x2:= !x1
 let x3:List Int:=[(Zas (Zd a.2.1 6).2).1,251,201]
 let x4:=smB x3
 let x5:List (Int×Int):=a.2.2.2.2.1++Stg.l (newG Zg9 Zha (Zqu (u16.wrap (R.get (R.int i64) [36,60,52,44,56,32] (Zd a.2.1 6).1)) x3))
 let x6:= !Zl a.2.1 6||(x2||(!Zcb (Zd a.2.1 6).2||(!x4||Nat.ble (List.length x5) most)))
 let x7:= !x6
 let x8:= !Zl a.2.1 6||(x2||(!Zcb (Zd a.2.1 6).2||x4))
 let x9:= !x8
 let x10:= !Zl a.2.1 6||(x2||Zcb (Zd a.2.1 6).2)
 let x11:= !x10
 let x12:= !Zl a.2.1 6||x1
 .br (decide (a.1>0)) (.br (x7||(x9||(x11||(!x12||Zl a.2.1 6)))) (.br (x7||(x9||(x11||x12))) (.br (x7||(x9||x10)) (.br (x7||x8) (.br (x6) (.Lf (some (Go1.cont (i64.wrap (a.1-1),(Zas (Zd a.2.1 6).2).2,a.2.2.1,a.2.2.2.1,x5,PUnit.unit)))) (.Lf none)) (.Lf none)) (.Lf none)) (.Lf none)) (.Lf none)) (.Lf (some (Go1.brk (a.1,a.2.1,a.2.2.1,a.2.2.2.1,a.2.2.2.2.1,PUnit.unit))))
def Zy5:Ora:=Za2 false ZR0 Zfe (λa=>400)
theorem ZEf:ZaH (envX prog [(32,Ztz),(46,ZcH),(47,Zo3),(72,ZRX),(92,Zto),(95,Z0I),(108,Zy3),(109,Zhi)] [] 63 8) (.block 0 (.loop (Z7 Tryz.f62.body 0))) Zy5:=
 loopP ⟨Zro,Zbc,Zo1,ZHT,Zm2,ZRR,ZlP,Zfc,Tv⟩
def Zpe (s:List Int×Int):RT (Option (BRDT×List Int×Int)):=
 let x1:=(Zd (Zd (Zd (nMap (ZaZ s).2).2 3).2 4).2 6).1==0
 let x2:= !x1
 let x3:List Int×Int:=(Zd (Zd (Zd (nMap (ZaZ s).2).2 3).2 4).2 6).2
 let x4:=ZgG x3
 let x5:=ZcP x3
 let x6:=x5.2
 let x7:=ZcP x6
 let x8:=x7.2
 let x9:List Int×Int:=(bif x1 then x8.1 else x3.1,bif x1 then x8.2 else x3.2)
 let x10:=ZgF x9 12
 let x11:=Zca x9 12
 let x12:=x11.1
 let x13:=x11.2
 let x14:=Zd x13 4
 let x15:QT19:=(x14.1,x14.2,(0,[],0,0,0,false,[]),((ZaZ s).1,(nMap (ZaZ s).2).1,(Zd (nMap (ZaZ s).2).2 3).1,bif x1 then x5.1 else 0,bif x1 then x7.1 else 4,(Zd (Zd (nMap (ZaZ s).2).2 3).2 4).1==0,[]),Stg.l (newG Zg9 Zha (Zqu 0 x12)),())
 let x16:=runF false Zfe (λa=>400) x15
 let x17:(List Int×Int)×BRDT×BRDT×List (Int×Int)×PUnit:=(getO (false,x15) x16).2.2
 let x18:=x17.2.2
 let x19:=x18.2.1
 let x20:=x18.1
 let x21:=x20.2
 let x22:=x21.2
 let x23:=x22.2
 let x24:=x23.2
 .br (!Zpc s||(!ZLx (ZaZ s).2||(!Zl (nMap (ZaZ s).2).2 3||Zl (Zd (nMap (ZaZ s).2).2 3).2 4))) (.br (!Zpc s||(!ZLx (ZaZ s).2||Zl (nMap (ZaZ s).2).2 3)) (.br (!Zpc s||ZLx (ZaZ s).2) (.br (Zpc s) (.br (Zl (Zd (Zd (nMap (ZaZ s).2).2 3).2 4).2 6) (.br (x2||(!x4||ZgG x6)) (.br (x2||x4) (.br (!x10||smB x12) (.br (x10) (.br (Zl x13 4) (.br (okB x16) (.br (smC x19) (.Lf (some (((x20.1,x21.1,x22.1,x23.1,x24.1,x24.2.1,Cells.normX x19),x17.1)))) (.Lf none)) (.Lf none)) (.Lf none)) (.Lf none)) (.Lf none)) (.Lf none)) (.Lf none)) (.Lf none)) (.Lf none)) (.Lf none)) (.Lf none)) (.Lf none)
def Zah (s:List Int×Int):BRDT×List Int×Int:=getO (ZvU.Df,ZvV.Df) (Zpe s).val
def Zpf (s:List Int×Int):Bool:=okB (Zpe s).val
def ZR1:En:=boxE ZvV ZHU ZvU (λa=>some (Zpf a.1)) (λa=>Zah a.1)
theorem ZRZ:Za prog 62 ZR1:=
 Zcr (P:=prog) (n:=63) (k:=8) (l:=[(32,Ztz),(46,ZcH),(47,Zo3),(72,ZRX),(92,Zto),(95,Z0I),(108,Zy3),(109,Zhi)]) (ol:=[(0,Zy5)]) ⟨Zro,Zbc,Zo1,ZHT,Zm2,ZRR,ZlP,Zfc,Tv⟩ Tryz.func62 rfl (by kernel_rfl) Tryz.call62 ⟨ZEf,Tv⟩ (rb:=ZvV) (ts:=ZHU) (rs:=ZvU) (t:=λa=>Zpe a.1) (λa=>by kernel_rfl)
abbrev ZvT:R:=R.Pq (R.sl (R.int i64)) (R.int i64)
abbrev ZHR:List Sh:=[]
abbrev ZvS:Rs:=Rs.one (Sh.agg Zds)
def Zpa (s:List Int×Int):RT (Option (INPT×List Int×Int)):=
 let x1:=decide ((Zd s 64).1<30)||(decide ((Zd s 64).1<36)||(decide ((Zd s 64).1<40)||(!decide ((Zd s 64).1<46)||Zl (Zd s 64).2 256)))
 let x2:= !x1
 let x3:=decide ((Zd s 64).1<30)||(decide ((Zd s 64).1<36)||(decide ((Zd s 64).1<40)||(decide ((Zd s 64).1<46)||(decide ((Zd s 64).1<50)||(decide ((Zd s 64).1<53)||(decide ((Zd s 64).1<55)||((Zd s 64).1==55||(!decide ((Zd s 64).1<60)||Zcb (Zd s 64).2))))))))
 let x4:= !x3
 let x5:= !Zbo (Zal (Zal (Zal (Zal (Zd s 64).2).2).2).2).2
 let x6:List Int×Int:=(Zal (Zal (Zal (Zal (Zal (Zd s 64).2).2).2).2).2).2
 let x7:=Zl x6 256
 let x8:=Zd x6 256
 let x9:=x8.2
 let x10:=decide ((Zd s 64).1<30)||(decide ((Zd s 64).1<36)||(decide ((Zd s 64).1<40)||(decide ((Zd s 64).1<46)||(decide ((Zd s 64).1<50)||(decide ((Zd s 64).1<53)||(decide ((Zd s 64).1<55)||((Zd s 64).1==55||(decide ((Zd s 64).1<60)||(!Zbo (Zd s 64).2||(!Zbo (Zal (Zd s 64).2).2||(!Zbo (Zal (Zal (Zd s 64).2).2).2||(!Zbo (Zal (Zal (Zal (Zd s 64).2).2).2).2||(x5||(!x7||Zl x9 256))))))))))))))
 let x11:= !x10
 let x12:=decide ((Zd s 64).1<30)||(decide ((Zd s 64).1<36)||(decide ((Zd s 64).1<40)||(decide ((Zd s 64).1<46)||(decide ((Zd s 64).1<50)||(decide ((Zd s 64).1<53)||(decide ((Zd s 64).1<55)||((Zd s 64).1==55||(decide ((Zd s 64).1<60)||(!Zbo (Zd s 64).2||(!Zbo (Zal (Zd s 64).2).2||(!Zbo (Zal (Zal (Zd s 64).2).2).2||(!Zbo (Zal (Zal (Zal (Zd s 64).2).2).2).2||(x5||x7)))))))))))))
 let x13:= !x12
 let x14:=decide ((Zd s 64).1<30)||(decide ((Zd s 64).1<36)||(decide ((Zd s 64).1<40)||(decide ((Zd s 64).1<46)||(decide ((Zd s 64).1<50)||(decide ((Zd s 64).1<53)||(decide ((Zd s 64).1<55)||((Zd s 64).1==55||(decide ((Zd s 64).1<60)||(!Zbo (Zd s 64).2||(!Zbo (Zal (Zd s 64).2).2||(!Zbo (Zal (Zal (Zd s 64).2).2).2||(!Zbo (Zal (Zal (Zal (Zd s 64).2).2).2).2||Zbo (Zal (Zal (Zal (Zal (Zd s 64).2).2).2).2).2))))))))))))
 let x15:= !x14
 let x16:=decide ((Zd s 64).1<30)||(decide ((Zd s 64).1<36)||(decide ((Zd s 64).1<40)||(decide ((Zd s 64).1<46)||(decide ((Zd s 64).1<50)||(decide ((Zd s 64).1<53)||(decide ((Zd s 64).1<55)||((Zd s 64).1==55||(decide ((Zd s 64).1<60)||(!Zbo (Zd s 64).2||(!Zbo (Zal (Zd s 64).2).2||(!Zbo (Zal (Zal (Zd s 64).2).2).2||Zbo (Zal (Zal (Zal (Zd s 64).2).2).2).2)))))))))))
 let x17:= !x16
 let x18:=decide ((Zd s 64).1<30)||(decide ((Zd s 64).1<36)||(decide ((Zd s 64).1<40)||(decide ((Zd s 64).1<46)||(decide ((Zd s 64).1<50)||(decide ((Zd s 64).1<53)||(decide ((Zd s 64).1<55)||((Zd s 64).1==55||(decide ((Zd s 64).1<60)||(!Zbo (Zd s 64).2||(!Zbo (Zal (Zd s 64).2).2||Zbo (Zal (Zal (Zd s 64).2).2).2))))))))))
 let x19:= !x18
 let x20:=decide ((Zd s 64).1<30)||(decide ((Zd s 64).1<36)||(decide ((Zd s 64).1<40)||(decide ((Zd s 64).1<46)||(decide ((Zd s 64).1<50)||(decide ((Zd s 64).1<53)||(decide ((Zd s 64).1<55)||((Zd s 64).1==55||(decide ((Zd s 64).1<60)||(!Zbo (Zd s 64).2||Zbo (Zal (Zd s 64).2).2)))))))))
 let x21:=Zd x9 256
 let x22:=x21.2
 .br (Zl s 64) (.br (x2||(x4||(x11||(x13||(x15||(x17||(x19||(!x20||(decide ((Zd s 64).1<30)||(decide ((Zd s 64).1<36)||(decide ((Zd s 64).1<40)||(decide ((Zd s 64).1<46)||(decide ((Zd s 64).1<50)||(decide ((Zd s 64).1<53)||(decide ((Zd s 64).1<55)||((Zd s 64).1==55||(decide ((Zd s 64).1<60)||Zbo (Zd s 64).2))))))))))))))))) (.br (x2||(x4||(x11||(x13||(x15||(x17||(x19||x20))))))) (.br (x2||(x4||(x11||(x13||(x15||(x17||x18)))))) (.br (x2||(x4||(x11||(x13||(x15||x16))))) (.br (x2||(x4||(x11||(x13||x14)))) (.br (x2||(x4||(x11||x12))) (.br (x2||(x4||x10)) (.br (x2||x3) (.br (x1) (.Lf (some (((bif decide ((Zd s 64).1<30) then ZW.1 else !decide ((Zd s 64).1<36)&&bif decide ((Zd s 64).1<40) then ZW.1 else bif decide ((Zd s 64).1<46) then ZW.1 else bif decide ((Zd s 64).1<50) then ZW.1 else bif decide ((Zd s 64).1<53) then ZW.1 else bif decide ((Zd s 64).1<55) then ZW.1 else bif (Zd s 64).1==55 then ZW.1 else bif decide ((Zd s 64).1<60) then ZW.1 else (Zal (Zd s 64).2).1,bif decide ((Zd s 64).1<30) then ZW.2.1 else bif decide ((Zd s 64).1<36) then ZW.2.1 else decide ((Zd s 64).1<40)||bif decide ((Zd s 64).1<46) then ZW.2.1 else bif decide ((Zd s 64).1<50) then ZW.2.1 else bif decide ((Zd s 64).1<53) then ZW.2.1 else bif decide ((Zd s 64).1<55) then ZW.2.1 else bif (Zd s 64).1==55 then ZW.2.1 else bif decide ((Zd s 64).1<60) then ZW.2.1 else (Zal (Zal (Zd s 64).2).2).1,bif decide ((Zd s 64).1<30) then ZW.2.2.1 else bif decide ((Zd s 64).1<36) then ZW.2.2.1 else bif decide ((Zd s 64).1<40) then ZW.2.2.1 else bif decide ((Zd s 64).1<46) then ZW.2.2.1 else bif decide ((Zd s 64).1<50) then ZW.2.2.1 else bif decide ((Zd s 64).1<53) then ZW.2.2.1 else bif decide ((Zd s 64).1<55) then ZW.2.2.1 else (Zd s 64).1==55||decide ((Zd s 64).1<60)&&ZW.2.2.1,bif decide ((Zd s 64).1<30) then ZW.2.2.2.1 else bif decide ((Zd s 64).1<36) then ZW.2.2.2.1 else bif decide ((Zd s 64).1<40) then ZW.2.2.2.1 else bif decide ((Zd s 64).1<46) then ZW.2.2.2.1 else bif decide ((Zd s 64).1<50) then ZW.2.2.2.1 else bif decide ((Zd s 64).1<53) then (Zd s 64).1==51 else bif decide ((Zd s 64).1<55) then ZW.2.2.2.1 else bif (Zd s 64).1==55 then ZW.2.2.2.1 else bif decide ((Zd s 64).1<60) then ZW.2.2.2.1 else (Zal (Zal (Zal (Zd s 64).2).2).2).1,bif decide ((Zd s 64).1<30) then ZW.2.2.2.2.1 else bif decide ((Zd s 64).1<36) then ZW.2.2.2.2.1 else bif decide ((Zd s 64).1<40) then ZW.2.2.2.2.1 else bif decide ((Zd s 64).1<46) then ZW.2.2.2.2.1 else bif decide ((Zd s 64).1<50) then ZW.2.2.2.2.1 else bif decide ((Zd s 64).1<53) then ZW.2.2.2.2.1 else decide ((Zd s 64).1<55)||bif (Zd s 64).1==55 then ZW.2.2.2.2.1 else decide ((Zd s 64).1<60)&&ZW.2.2.2.2.1,bif decide ((Zd s 64).1<30) then ZW.2.2.2.2.2.1 else bif decide ((Zd s 64).1<36) then ZW.2.2.2.2.2.1 else bif decide ((Zd s 64).1<40) then ZW.2.2.2.2.2.1 else bif decide ((Zd s 64).1<46) then ZW.2.2.2.2.2.1 else bif decide ((Zd s 64).1<50) then Int.tmod (Zd s 64).1 2==0 else bif decide ((Zd s 64).1<53) then ZW.2.2.2.2.2.1 else bif decide ((Zd s 64).1<55) then ZW.2.2.2.2.2.1 else bif (Zd s 64).1==55 then ZW.2.2.2.2.2.1 else bif decide ((Zd s 64).1<60) then ZW.2.2.2.2.2.1 else (Zal (Zal (Zal (Zal (Zd s 64).2).2).2).2).1,bif decide ((Zd s 64).1<30) then ZW.2.2.2.2.2.2.1 else bif decide ((Zd s 64).1<36) then ZW.2.2.2.2.2.2.1 else bif decide ((Zd s 64).1<40) then ZW.2.2.2.2.2.2.1 else bif decide ((Zd s 64).1<46) then ZW.2.2.2.2.2.2.1 else bif decide ((Zd s 64).1<50) then Int.tmod (Zd s 64).1 2==1 else bif decide ((Zd s 64).1<53) then ZW.2.2.2.2.2.2.1 else bif decide ((Zd s 64).1<55) then ZW.2.2.2.2.2.2.1 else bif (Zd s 64).1==55 then ZW.2.2.2.2.2.2.1 else bif decide ((Zd s 64).1<60) then ZW.2.2.2.2.2.2.1 else (Zal (Zal (Zal (Zal (Zal (Zd s 64).2).2).2).2).2).1,bif decide ((Zd s 64).1<30) then ZW.2.2.2.2.2.2.2.1 else bif decide ((Zd s 64).1<36) then ZW.2.2.2.2.2.2.2.1 else bif decide ((Zd s 64).1<40) then ZW.2.2.2.2.2.2.2.1 else bif decide ((Zd s 64).1<46) then ZW.2.2.2.2.2.2.2.1 else bif decide ((Zd s 64).1<50) then ZW.2.2.2.2.2.2.2.1 else decide ((Zd s 64).1<53)||bif decide ((Zd s 64).1<55) then ZW.2.2.2.2.2.2.2.1 else bif (Zd s 64).1==55 then ZW.2.2.2.2.2.2.2.1 else decide ((Zd s 64).1<60)&&ZW.2.2.2.2.2.2.2.1,bif decide ((Zd s 64).1<30) then ZW.2.2.2.2.2.2.2.2.1 else bif decide ((Zd s 64).1<36) then ZW.2.2.2.2.2.2.2.2.1 else bif decide ((Zd s 64).1<40) then ZW.2.2.2.2.2.2.2.2.1 else bif decide ((Zd s 64).1<46) then u8.wrap (Zd (Zd s 64).2 256).1 else bif decide ((Zd s 64).1<50) then ZW.2.2.2.2.2.2.2.2.1 else bif decide ((Zd s 64).1<53) then ZW.2.2.2.2.2.2.2.2.1 else bif decide ((Zd s 64).1<55) then ZW.2.2.2.2.2.2.2.2.1 else bif (Zd s 64).1==55 then ZW.2.2.2.2.2.2.2.2.1 else bif decide ((Zd s 64).1<60) then 1 else u8.wrap x8.1,bif decide ((Zd s 64).1<30) then u8.wrap (Zd s 64).1 else bif decide ((Zd s 64).1<36) then ZW.2.2.2.2.2.2.2.2.2 else bif decide ((Zd s 64).1<40) then ZW.2.2.2.2.2.2.2.2.2 else bif decide ((Zd s 64).1<46) then ZW.2.2.2.2.2.2.2.2.2 else bif decide ((Zd s 64).1<50) then ZW.2.2.2.2.2.2.2.2.2 else bif decide ((Zd s 64).1<53) then ZW.2.2.2.2.2.2.2.2.2 else bif decide ((Zd s 64).1<55) then ZW.2.2.2.2.2.2.2.2.2 else bif (Zd s 64).1==55 then ZW.2.2.2.2.2.2.2.2.2 else bif decide ((Zd s 64).1<60) then (Zas (Zd s 64).2).1 else u8.wrap x21.1),bif decide ((Zd s 64).1<30) then (Zd s 64).2.1 else bif decide ((Zd s 64).1<36) then (Zd s 64).2.1 else bif decide ((Zd s 64).1<40) then (Zd s 64).2.1 else bif decide ((Zd s 64).1<46) then (Zd (Zd s 64).2 256).2.1 else bif decide ((Zd s 64).1<50) then (Zd s 64).2.1 else bif decide ((Zd s 64).1<53) then (Zd s 64).2.1 else bif decide ((Zd s 64).1<55) then (Zd s 64).2.1 else bif (Zd s 64).1==55 then (Zd s 64).2.1 else bif decide ((Zd s 64).1<60) then (Zas (Zd s 64).2).2.1 else x22.1,bif decide ((Zd s 64).1<30) then (Zd s 64).2.2 else bif decide ((Zd s 64).1<36) then (Zd s 64).2.2 else bif decide ((Zd s 64).1<40) then (Zd s 64).2.2 else bif decide ((Zd s 64).1<46) then (Zd (Zd s 64).2 256).2.2 else bif decide ((Zd s 64).1<50) then (Zd s 64).2.2 else bif decide ((Zd s 64).1<53) then (Zd s 64).2.2 else bif decide ((Zd s 64).1<55) then (Zd s 64).2.2 else bif (Zd s 64).1==55 then (Zd s 64).2.2 else bif decide ((Zd s 64).1<60) then (Zas (Zd s 64).2).2.2 else x22.2)))) (.Lf none)) (.Lf none)) (.Lf none)) (.Lf none)) (.Lf none)) (.Lf none)) (.Lf none)) (.Lf none)) (.Lf none)) (.Lf none)
def ZdF (s:List Int×Int):INPT×List Int×Int:=getO (ZvS.Df,ZvT.Df) (Zpa s).val
def Zh5 (s:List Int×Int):Bool:=okB (Zpa s).val
def Zpb:En:=boxE ZvT ZHR ZvS (λa=>some (Zh5 a.1)) (λa=>ZdF a.1)
theorem Zo9:Za prog 135 Zpb:=
 Zcr (P:=prog) (n:=5036105318265824215071) (k:=8) (l:=[(46,ZcH),(74,ZX7),(109,Zhi),(190,ZE8)]) (ol:=[]) ⟨Zbc,ZVJ,Zfc,Zsj,Tv⟩ Tryz.func135 rfl (by kernel_rfl) Tryz.call135 trivial (rb:=ZvT) (ts:=ZHR) (rs:=ZvS) (t:=λa=>Zpa a.1) (λa=>by kernel_rfl)
abbrev Zo8:R:=R.Pq (R.sl (R.int i64)) (R.int i64)
abbrev Zy0:List Sh:=[Sh.one (R.int i64)]
abbrev Zo7:Rs:=Rs.one (Sh.one (R.sl Zds))
def ZLB:LS:={n:=39,Sl:=[(0,.fix (A.loc 0 0)),(5,.tip 0),(6,.code (Sh.one (R.int i64))),(7,.fix (A.loc 1 0)),(8,.code (Sh.one (R.int i64)))],Bx:=[[.many (R.Pq (R.sl (R.int i64)) (R.int i64))],[.many Zds]],Sg:=[⟨Zds,195,true⟩]}
def ZdY (a:QT18):RT (Option (Go1 (QT18))):=
 let x1:List INPT:=a.2.2.2.2.1++[a.2.2.2.1]
 .br (decide (a.2.1>=0)&&decide (iN (List.length a.2.2.2.2.1)<a.1)) (.br (Nat.ble (List.length x1) most) (.Lf (some (Go1.cont (a.1,i64.wrap (a.2.1-1),a.2.2.1,a.2.2.2.1,x1,PUnit.unit)))) (.Lf none)) (.Lf (some (Go1.brk (a.1,a.2.1,a.2.2.1,a.2.2.2.1,a.2.2.2.2.1,PUnit.unit))))
def Zhj:Ora:=Za2 false ZLB ZdY (λa=>400)
theorem ZkV:ZaH (envX prog [(46,ZcH),(135,Zpb)] [] 511 8) (.block 2 (.loop (Z7 Tryz.f71.body 2))) Zhj:=
 loopP ⟨Zbc,Zo9,Tv⟩
def ZLA:LS:={n:=39,Sl:=[(0,.fix (A.loc 0 0)),(5,.tip 0),(6,.code (Sh.one (R.int i64)))],Bx:=[[.many (R.Pq (R.sl (R.int i64)) (R.int i64))]],Sg:=[⟨Zds,195,true⟩]}
def Zfd (a:QT26):RT (Option (Go1 (QT26))):=
 let x1:= !Zl (ZdF a.2.1).2 4||Zl (Zd (ZdF a.2.1).2 4).2 5
 let x2:= !x1
 let x3:QT18:=(a.1,i64.wrap ((Zd (ZdF a.2.1).2 4).1*(Zd (Zd (ZdF a.2.1).2 4).2 5).1),(Zd (Zd (ZdF a.2.1).2 4).2 5).2,(ZdF a.2.1).1,a.2.2.1,())
 let x4:=runF false ZdY (λa_1=>400) x3
 let x5:QT18:=(getO (false,x3) x4).2
 let x6:=x5.2.2
 .br (decide (iN (List.length a.2.2.1)<a.1)) (.br (!Zh5 a.2.1||(x2||(!Zl (ZdF a.2.1).2 4||okB x4))) (.br (!Zh5 a.2.1||(x2||Zl (ZdF a.2.1).2 4)) (.br (!Zh5 a.2.1||x1) (.br (Zh5 a.2.1) (.Lf (some (Go1.cont (x5.1,x6.1,x6.2.2.1,PUnit.unit)))) (.Lf none)) (.Lf none)) (.Lf none)) (.Lf none)) (.Lf (some (Go1.brk (a.1,a.2.1,a.2.2.1,PUnit.unit))))
def ZrN:Ora:=Za2 false ZLA Zfd (λa=>400)
theorem Zy1:ZaH (envX prog [(46,ZcH),(135,Zpb)] [(2,Zhj)] 511 8) (.block 0 (.loop (Z7 Tryz.f71.body 0))) ZrN:=
 Zjb (Zb2 (l:=[(46,ZcH),(135,Zpb)]) ⟨Zbc,Zo9,Tv⟩ [(2,Zhj)] 511 8) (Zh7 (by kernel_rfl) (by kernel_rfl) ⟨ZkV,Tv⟩) (λa=>by kernel_rfl)
def Zi5 (s:List Int×Int) (n:Int):RT (Option (List INPT×List Int×Int)):=
 let x1:QT26:=((Zd s (i64.wrap (n+1))).1,(Zd s (i64.wrap (n+1))).2,[],())
 let x2:=runF false Zfd (λa=>400) x1
 let x3:(List Int×Int)×List INPT×PUnit:=(getO (false,x1) x2).2.2
 .br (Zl s (i64.wrap (n+1))) (.br (okB x2) (.Lf (some ((x3.2.1,x3.1)))) (.Lf none)) (.Lf none)
def Zag (s:List Int×Int) (n:Int):List INPT×List Int×Int:=getO (Zo7.Df,Zo8.Df) (Zi5 s n).val
def Zi6 (s:List Int×Int) (n:Int):Bool:=okB (Zi5 s n).val
def ZHQ:En:=boxE Zo8 Zy0 Zo7 (λa=>some (Zi6 a.1 a.2)) (λa=>Zag a.1 a.2)
theorem ZLy:Za prog 71 ZHQ:=
 Zcr (P:=prog) (n:=511) (k:=8) (l:=[(46,ZcH),(135,Zpb)]) (ol:=[(2,Zhj),(0,ZrN)]) ⟨Zbc,Zo9,Tv⟩ Tryz.func71 rfl (by kernel_rfl) Tryz.call71 ⟨ZkV,Zy1,Tv⟩ (rb:=Zo8) (ts:=Zy0) (rs:=Zo7) (t:=λa=>Zi5 a.1 a.2) (λa=>by kernel_rfl)
variable {s:List Int×Int} {k:Int}
theorem NB.up {j:Int} (h:NB s k) (hj:k<=j):NB s j:=⟨h.1,by have:=h.2;omega⟩
theorem Zi7 (h:NB s k) (hk:k<=1000000):Zbo s=true/\NB (Zal s).2 (k+1):=by obtain⟨c1,b,_⟩:=Zv h hk 2 (by decide) (by decide);simp only[Zbo,Zal,ZHS,RT.val,c1,Ya,okB,getO];exact⟨trivial,b⟩
theorem Zau {a b:Nat} (h:a<=b):Nat.ble a b=true:=by rw[YH];exact h
theorem ZD1 (h:NB s k) (hk:k<=500000) (n:Nat) (hn:n<=100):
  ZbX s (n:Int)=true/\NB (Z4 s (n:Int)).2 (k+1+5*n)/\(Z4 s (n:Int)).1.length<=n:=by
 have hms:=mst;have w0:IntKind.wrap .i64 ((n:Int)+1)=(n:Int)+1:=wrap_i64 _ (by omega) (by omega);obtain⟨c1,b1,d0,d1⟩:=Zv h (by omega) ((n:Int)+1) (by omega) (by omega);obtain⟨L,N,hs1⟩:∃L N,(L,N)=(Zd s ((n:Int)+1)).2:=⟨_,_,rfl⟩;obtain⟨q,hq⟩:∃q:Nat,(Zd s ((n:Int)+1)).1=(q:Int):=⟨_,(Yam d0).symm⟩;rw[<-hs1] at b1;obtain⟨r,hr,h1,L',N',o,hs',ho,hR⟩:=ZH (fl:=false) (t:=ZbW) (fuel:=λa=>400)
  (λa=>∃(i:Nat) (L:List Int) (N:Int) (o:List ZM),i<=q/\NB (L,N) (k+1+5*((q-i:Nat):Int))/\o.length<=q-i/\a=((i:Int),(L,N),o,()))
  (λa=>Int.toNat a.1) (λr=>r.1=false/\∃(L:List Int) (N:Int) (o:List ZM),NB (L,N) (k+1+5*(q:Int))/\o.length<=q/\r.2=((0:Int),(L,N),o,()))
  (by
   rintro a ⟨i,L,N,o,hi,hs',ho,rfl⟩;cases i with
   |zero=>
    right;left;exact⟨_,by simp only[ZbW,RT.val];rfl,rfl,L,N,o,by simpa using hs',by omega,rfl⟩
   |succ i=>
    left;have d:decide (((i+1:Nat):Int)>0)=true:=Yq (by omega);obtain⟨kw,bw,_⟩:=ZHO hs' (by omega);obtain⟨k1,b1,e0,e1⟩:=Zv bw (by omega) 6 (by decide) (by decide);obtain⟨k2,b2,_⟩:=Zv b1 (by omega) 3 (by decide) (by decide);obtain⟨k3,b3,f0,f1⟩:=Zv b2 (by omega) 5 (by decide) (by decide);have r1:Ze (Zd (ZaS (L,N)).2 6).1 6=true:=ZC.2 ⟨e0,e1⟩;have r2:Ze (Zd (Zd (Zd (ZaS (L,N)).2 6).2 3).2 5).1 5=true:=ZC.2 ⟨f0,f1⟩;have hb:∀x:ZM,Nat.ble (o++[x]).length most=true:=λx=>Zau (by simp;omega)
    have w:IntKind.wrap .i64 (((i+1:Nat):Int)-1)=(i:Int):=by rw[wrap_i64 _ (by omega) (by omega)];omega
    obtain⟨o',ho'⟩:∃o':List ZM,o'=o++[((ZaS (L,N)).1,u16.wrap (if 65535<i64.wrap (i64.wrap (ZaS (L,N)).1+R.get (R.int i64) [0,3,15,255,4095,65535] (Zd (ZaS (L,N)).2 6).1) then 65535 else i64.wrap (i64.wrap (ZaS (L,N)).1+R.get (R.int i64) [0,3,15,255,4095,65535] (Zd (ZaS (L,N)).2 6).1)),decide ((Zd (Zd (ZaS (L,N)).2 6).2 3).1>0),R.get (R.int i64) [0,0,1,2,5] (Zd (Zd (Zd (ZaS (L,N)).2 6).2 3).2 5).1)]:=⟨_,rfl⟩;refine⟨((i:Int),((Zd (Zd (Zd (ZaS (L,N)).2 6).2 3).2 5).2.1,(Zd (Zd (Zd (ZaS (L,N)).2 6).2 3).2 5).2.2),o',()),?_,⟨i,_,_,o',by omega,b3.up (by omega),by rw[ho'];simp;omega,rfl⟩,by simp only;omega⟩
    simp only[ZbW,RT.val,List.length_cons,List.length_nil,Nat.reduceAdd,d,kw,k1,k2,k3,r1,r2,hb,w,ho',Ya,Yf,Yj,Yh,Yx])
  ((q:Int),(L,N),[],()) ⟨q,L,N,[],Ye _,by simpa using b1,by simp,rfl⟩ (by simp only;omega)
 obtain⟨r1,r2⟩:=r;simp only at h1 hR;subst h1 hR;have hv:(Zep s (n:Int)).val=some (o,L',N'):=by simp only[Zep,RT.val,w0,c1,hq,<-hs1,hr,okB,getO,Ya]
 simp only[ZbX,Z4,hv,okB,getO];exact⟨trivial,hs'.up (by omega),by omega⟩
theorem Z1L {l:List Cell} (h:l.length<=1000):smC l=true:=Zau (by have:=mst;omega)
theorem ZW1 {l:List Int} (h:l.length<=1000):smB l=true:=Zau (by have:=mst;omega)
theorem ZD7 (h:NB s k) (hk:k<=400000):ZLx s=true/\NB (nMap s).2 (k+20)/\(nMap s).1.length<=3:=by
 obtain⟨c1,b1,l1⟩:=ZD1 h (by omega) 2 (by omega);have c1:ZbX s 2=true:=c1;have b1:NB (Z4 s 2).2 (k+1+5*((2:Nat):Int)):=b1;have l1:(Z4 s 2).1.length<=2:=l1;obtain⟨c2,b2,_⟩:=Zv b1 (by omega) 3 (by decide) (by decide);have hs:∀x:ZM,Nat.ble ((Z4 s 2).1++[x]).length most=true:=λx=>Zau (by have:=mst;simp;omega)
 have hg:∀l:List ZM,Stg.l (newG ZdW ZdX l)=l:=λ_=>rfl
 have hv:(ZD8 s).val=some ((Z4 s 2).1++[(0,65535,true,IntKind.wrap .i64 (Int.tdiv (Zd (Z4 s 2).2 3).1 2))],(Zd (Z4 s 2).2 3).2):=by simp only[ZD8,RT.val,hg,c1,c2,hs,Yf,Yj,Yh,Ya]
 refine⟨by simp only[ZLx,hv];rfl,?_,?_⟩
 ·simp only[nMap,hv,getO];exact b2.up (by omega)
 ·simp only[nMap,hv,getO];simp;omega
theorem ZD3 (h:NB s k) (hk:k<=300000) (n:Nat) (hn:n<=20):
  ZgF s (n:Int)=true/\NB (Zca s (n:Int)).2 (k+1+10*n)/\(Zca s (n:Int)).1.length<=12*n:=by
 have hms:=mst;have w0:IntKind.wrap .i64 ((n:Int)+1)=(n:Int)+1:=wrap_i64 _ (by omega) (by omega);obtain⟨c1,b1,d0,d1⟩:=Zv h (by omega) ((n:Int)+1) (by omega) (by omega);obtain⟨s1,hs1⟩:∃s1,s1=(Zd s ((n:Int)+1)).2:=⟨_,rfl⟩;obtain⟨q,hq⟩:∃q:Nat,(Zd s ((n:Int)+1)).1=(q:Int):=⟨_,(Yam d0).symm⟩;rw[<-hs1] at b1;obtain⟨r,hr,h1,s',o,hs',ho,hR⟩:=ZH (fl:=false) (t:=Zc3) (fuel:=λa=>400)
  (λa=>∃(i:Nat) (s':List Int×Int) (o:List Int),i<=q/\NB s' (k+1+10*((q-i:Nat):Int))/\o.length<=12*(q-i)/\a=((i:Int),s',o,()))
  (λa=>Int.toNat a.1) (λr=>r.1=false/\∃(s':List Int×Int) (o:List Int),NB s' (k+1+10*(q:Int))/\o.length<=12*q/\r.2=((0:Int),s',o,()))
  (by
   rintro a ⟨i,s',o,hi,hs',ho,rfl⟩;cases i with
   |zero=>
    right;left;exact⟨_,by simp only[Zc3,RT.val];rfl,rfl,s',o,by simpa using hs',by omega,rfl⟩
   |succ i=>
    left;have d:decide (((i+1:Nat):Int)>0)=true:=Yq (by omega);have w:IntKind.wrap .i64 (((i+1:Nat):Int)-1)=(i:Int):=by rw[wrap_i64 _ (by omega) (by omega)];omega
    obtain⟨k0,b0,_⟩:=Zv hs' (by omega) 8 (by decide) (by decide);obtain⟨k1,b1,e0,e1⟩:=Zv b0 (by omega) 4 (by decide) (by decide);obtain⟨k2,b2,_⟩:=Zv b1 (by omega) 256 (by decide) (by decide);obtain⟨k3,b3,f0,f1⟩:=Zv b2 (by omega) 4 (by decide) (by decide);obtain⟨k4,b4,_⟩:=ZlQ b0 (by omega);obtain⟨k5,b5,_⟩:=Zv b4 (by omega) 8 (by decide) (by decide);obtain⟨k6,b6,_⟩:=Zv b0 (by omega) 16 (by decide) (by decide);obtain⟨k7,b7,_⟩:=ZlQ b6 (by omega);obtain⟨k8,b8,_⟩:=Zkh b0 (by omega);obtain⟨k9,b9,_⟩:=Zv b8 (by omega) 64 (by decide) (by decide);obtain⟨ka,ba,g0,g1⟩:=Zv b9 (by omega) 4 (by decide) (by decide);have r1:Ze (Zd (Zd s' 8).2 4).1 4=true:=ZC.2 ⟨e0,e1⟩;have r2:Ze (Zd (Zd (Zd (Zd s' 8).2 4).2 256).2 4).1 4=true:=ZC.2 ⟨f0,f1⟩;have r3:Ze (Zd (Zd (Zas (Zd s' 8).2).2 64).2 4).1 4=true:=ZC.2 ⟨g0,g1⟩;have hb:∀x:List Int,x.length<=12->Nat.ble (o++x).length most=true:=λx hx=>Zau (by rw[Yd];omega)
    have q1:∀a b c:Int,Nat.ble (o++[a,b,c]).length most=true:=λa b c=>hb _ (by simp)
    have q2:∀a b c d:Int,Nat.ble (o++[a,b,c,d]).length most=true:=λa b c d=>hb _ (by simp)
    have q3:∀a:Int,Nat.ble (o++[a]).length most=true:=λa=>hb _ (by simp)
    have q4:∀a b c d e f g h i j k l:Int,Nat.ble (o++[a,b,c,d,e,f,g,h,i,j,k,l]).length most=true:=λa b c d e f g h i j k l=>hb _ (by simp)
    have hv:∃s2 x,x.length<=12/\NB s2 (k+1+10*((q-i:Nat):Int))/\(Zc3 (((i+1:Nat):Int),s',o,())).val=some (Go1.cont ((i:Int),s2,o++x,())):=by
     simp only[Zc3,RT.val,List.length_cons,List.length_nil,Nat.reduceAdd,d,w,k0,k1,k2,k3,k4,k5,k6,k7,k8,k9,ka,r1,r2,r3,q1,q2,q3,q4,Ya,Yf,Yj,Yh,Yx];cases (Zd s' 8).1==0
     ·cases (Zd s' 8).1==1
      ·cases (Zd s' 8).1==2
       ·cases (Zd s' 8).1==3
        ·exact⟨_,[(Zas (Zd s' 8).2).1,IntKind.wrap .u8 (Zd (Zas (Zd s' 8).2).2 64).1,R.get (R.int .u8) [0,0,1,255] (Zd (Zd (Zas (Zd s' 8).2).2 64).2 4).1],by simp,ba.up (by omega),rfl⟩
        ·exact⟨_,[62,IntKind.wrap .u8 (IntKind.wrap .i64 (16+(Zd (Zd s' 8).2 16).1)),211,0,62,(ZcP (Zd (Zd s' 8).2 16).2).1,211,1,62,0,211,1],by simp,b7.up (by omega),rfl⟩
       ·exact⟨_,[251],by simp,b0.up (by omega),rfl⟩
      ·exact⟨_,[62,(ZcP (Zd s' 8).2).1,211,IntKind.wrap .u8 (Zd (ZcP (Zd s' 8).2).2 8).1],by simp,b5.up (by omega),rfl⟩
     ·exact⟨_,[R.get (R.int .u8) [33,49,1,17] (Zd (Zd s' 8).2 4).1,IntKind.wrap .u8 (Zd (Zd (Zd s' 8).2 4).2 256).1,R.get (R.int .u8) [0,0,1,255] (Zd (Zd (Zd (Zd s' 8).2 4).2 256).2 4).1],by simp,b3.up (by omega),rfl⟩
    obtain⟨s2,x,hx,hs2,hv⟩:=hv
    exact⟨_,hv,⟨i,s2,o++x,by omega,hs2,by rw[Yd];omega,rfl⟩,by simp only;omega⟩)
  ((q:Int),s1,[],()) ⟨q,s1,[],Ye _,by simpa using b1,by simp,rfl⟩ (by simp only;omega)
 obtain⟨r1,r2⟩:=r;simp only at h1 hR;subst h1 hR;have hv:(ZgE s (n:Int)).val=some (o,s'):=by simp only[ZgE,RT.val,w0,c1,hq,<-hs1,hr,okB,getO,Ya]
 simp only[ZgF,Zca,hv,okB,getO];exact⟨trivial,hs'.up (by omega),by omega⟩
theorem Zzm (t:Int) (b:List Int):(Zqu t b).length<=b.length:=by have:=ZbU (Zpv t b b.length);rw[Zpu] at this;exact this
theorem ZRU (h:NB s k) (hk:k<=300000):Zh5 s=true/\NB (ZdF s).2 (k+20):=by
 obtain⟨c1,b1,_⟩:=Zv h (by omega) 64 (by decide) (by decide);obtain⟨c2,b2,_⟩:=Zv b1 (by omega) 256 (by decide) (by decide);obtain⟨c3,b3,_⟩:=Zkh b1 (by omega);obtain⟨f1,g1⟩:=Zi7 b1 (by omega);obtain⟨f2,g2⟩:=Zi7 g1 (by omega);obtain⟨f3,g3⟩:=Zi7 g2 (by omega);obtain⟨f4,g4⟩:=Zi7 g3 (by omega);obtain⟨f5,g5⟩:=Zi7 g4 (by omega);obtain⟨c4,b4,_⟩:=Zv g5 (by omega) 256 (by decide) (by decide);obtain⟨c5,b5,_⟩:=Zv b4 (by omega) 256 (by decide) (by decide);have hv:∃c s',(Zpa s).val=some (c,s')/\NB s' (k+20):=by
  simp only[Zpa,RT.val,c1,c2,c3,c4,c5,f1,f2,f3,f4,f5,Ya,Yf,Yj,Yh,Yx];cases decide ((Zd s 64).1<30) with
  |true=>exact⟨_,_,rfl,b1.up (by omega)⟩
  |false=>
  cases decide ((Zd s 64).1<36) with
  |true=>exact⟨_,_,rfl,b1.up (by omega)⟩
  |false=>
  cases decide ((Zd s 64).1<40) with
  |true=>exact⟨_,_,rfl,b1.up (by omega)⟩
  |false=>
  cases decide ((Zd s 64).1<46) with
  |true=>exact⟨_,_,rfl,b2.up (by omega)⟩
  |false=>
  cases decide ((Zd s 64).1<50) with
  |true=>exact⟨_,_,rfl,b1.up (by omega)⟩
  |false=>
  cases decide ((Zd s 64).1<53) with
  |true=>exact⟨_,_,rfl,b1.up (by omega)⟩
  |false=>
  cases decide ((Zd s 64).1<55) with
  |true=>exact⟨_,_,rfl,b1.up (by omega)⟩
  |false=>
  cases ((Zd s 64).1==55) with
  |true=>exact⟨_,_,rfl,b1.up (by omega)⟩
  |false=>
  cases decide ((Zd s 64).1<60) with
  |true=>exact⟨_,_,rfl,b3.up (by omega)⟩
  |false=>exact⟨_,_,rfl,b5.up (by omega)⟩
 obtain⟨c,s',hv,h1⟩:=hv;simp only[Zh5,ZdF,hv,okB,getO];exact⟨trivial,h1⟩
theorem Z00 (s:List Int×Int) (z:Int) (c:INPT) (kk:Nat) (hk:kk<300) (o:List INPT) (size:Nat) (ho:o.length<=size) (hz:size<=300):
  ∃k2 o2,runF false ZdY (λ_=>400) ((size:Int),(kk:Int),s,c,o,())=some (false,(size:Int),k2,s,c,o2,())/\o2.length<=size/\o.length<=o2.length/\(o.length<size->o.length<o2.length):=by
 have hms:=mst;obtain⟨r,hr,h1,k2,o2,e1,e2,e3,e4⟩:=ZH (fl:=false) (t:=ZdY) (fuel:=λ_=>400)
  (λa=>∃(j:Nat) (o2:List INPT),j<=kk+1/\o2.length<=size/\o.length<=o2.length/\(j=kk+1\/o.length<o2.length)/\a=((size:Int),(j:Int)-1,s,c,o2,()))
  (λa=>Int.toNat (a.2.1+1)) (λr=>r.1=false/\∃k2 o2,r.2=((size:Int),k2,s,c,o2,())/\o2.length<=size/\o.length<=o2.length/\(o.length<size->o.length<o2.length))
  (by
   rintro a ⟨j,o2,hj,h2,h3,h4,rfl⟩;have w:∀j:Nat,j<=1000->IntKind.wrap .i64 (((j:Nat):Int)-1-1)=(j:Int)-1-1:=λj hj=>wrap_i64 _ (by omega) (by omega)
   by_cases hc:1<=j/\o2.length<size
   ·left;have d1:decide (((j:Nat):Int)-1>=0)=true:=Yq (by omega);have d2:decide (iN o2.length<(size:Int))=true:=Yq (by simp only[iN];omega);have hb:Nat.ble (o2++[c]).length most=true:=Zau (by simp;omega);refine⟨((size:Int),(j:Int)-1-1,s,c,o2++[c],()),?_,⟨j-1,o2++[c],by omega,by simp;omega,by simp;omega,by right;simp;omega,?_⟩,by simp only;omega⟩
    ·simp only[ZdY,RT.val,d1,d2,hb,YW,Ya,w j (by omega)]
    ·have:((j:Nat):Int)-1=((j-1:Nat):Int):=by omega
     rw[this]
   ·right;left;have d:(decide (((j:Nat):Int)-1>=0)&&decide (iN o2.length<(size:Int)))=false:=by simp only[iN,Yae,Y4];omega
    exact⟨((size:Int),(j:Int)-1,s,c,o2,()),by simp only[ZdY,RT.val,d,Yb],rfl,_,o2,rfl,h2,h3,λh=>by
     rcases h4 with h4|h4
     ·omega
     ·exact h4⟩)
  ((size:Int),(kk:Int),s,c,o,()) ⟨kk+1,o,Ye _,ho,Ye _,.inl rfl,by
   have:(kk:Int)=((kk+1:Nat):Int)-1:=by omega
   rw[<-this]⟩ (by simp only;omega)
 obtain⟨r1,r2⟩:=r;simp only at h1 e1;subst h1 e1;exact⟨k2,o2,hr,e2,e3,e4⟩
theorem ZLz (h:NB s k) (hk:k<=100000) (n:Nat) (hn:n<=250):
  Zi6 s (n:Int)=true/\NB (Zag s (n:Int)).2 (k+1+30*n)/\(Zag s (n:Int)).1.length<=n:=by
 have hms:=mst;have w0:IntKind.wrap .i64 ((n:Int)+1)=(n:Int)+1:=wrap_i64 _ (by omega) (by omega);obtain⟨c1,b1,d0,d1⟩:=Zv h (by omega) ((n:Int)+1) (by omega) (by omega);obtain⟨s1,hs1⟩:∃s1,s1=(Zd s ((n:Int)+1)).2:=⟨_,rfl⟩;obtain⟨q,hq⟩:∃q:Nat,(Zd s ((n:Int)+1)).1=(q:Int):=⟨_,(Yam d0).symm⟩;rw[<-hs1] at b1;obtain⟨r,hr,h1,s',o,hs',ho,hR⟩:=ZH (fl:=false) (t:=Zfd) (fuel:=λa=>400)
  (λa=>∃(s':List Int×Int) (o:List INPT),NB s' (k+1+30*(o.length:Int))/\o.length<=q/\a=((q:Int),s',o,()))
  (λa=>Int.toNat a.1-a.2.2.1.length) (λr=>r.1=false/\∃(s':List Int×Int) (o:List INPT),NB s' (k+1+30*(q:Int))/\o.length<=q/\r.2=((q:Int),s',o,()))
  (by
   rintro a ⟨s',o,hs',ho,rfl⟩;by_cases hc:o.length<q
   ·left;have d:decide (iN o.length<(q:Int))=true:=Yq (by simp only[iN];omega);obtain⟨i1,g1⟩:=ZRU hs' (by omega);obtain⟨i2,g2,m0,m1⟩:=Zv g1 (by omega) 4 (by decide) (by decide);obtain⟨i3,g3,m2,m3⟩:=Zv g2 (by omega) 5 (by decide) (by decide);obtain⟨x,hx⟩:∃x:Nat,(Zd (ZdF s').2 4).1=(x:Int):=⟨_,(Yam m0).symm⟩;obtain⟨y,hy⟩:∃y:Nat,(Zd (Zd (ZdF s').2 4).2 5).1=(y:Int):=⟨_,(Yam m2).symm⟩;have hxy:x*y<=3*4:=Nat.mul_le_mul (by omega) (by omega);have w:IntKind.wrap .i64 ((x:Int)*(y:Int))=((x*y:Nat):Int):=by rw[show (x:Int)*(y:Int)=((x*y:Nat):Int) by simp,wrap_i64 _ (by omega) (by omega)]
    obtain⟨k2,o2,hr,e2,e3,e4⟩:=Z00 (Zd (Zd (ZdF s').2 4).2 5).2 0 (ZdF s').1 (x*y) (by omega) o q ho (by omega);have e5:=e4 hc;refine⟨((q:Int),(Zd (Zd (ZdF s').2 4).2 5).2,o2,()),?_,⟨_,o2,g3.up (by omega),e2,rfl⟩,by simp only;omega⟩;simp only[Zfd,RT.val,d,i1,i2,i3,hx,hy,w,hr,okB,getO,Ya,Yf,Yj,Yh,Yx]
   ·right;left;have d:decide (iN o.length<(q:Int))=false:=Yv (by simp only[iN];omega)
    exact⟨_,by simp only[Zfd,RT.val,d,Yb],rfl,s',o,hs'.up (by omega),ho,rfl⟩)
  ((q:Int),s1,[],()) ⟨s1,[],by simpa using b1,by simp,rfl⟩ (by simp only[List.length_nil];omega)
 obtain⟨r1,r2⟩:=r;simp only at h1 hR;subst h1 hR;have hv:(Zi5 s (n:Int)).val=some (o,s'):=by simp only[Zi5,RT.val,w0,c1,hq,<-hs1,hr,okB,getO,Ya]
 simp only[Zi6,Zag,hv,okB,getO];exact⟨trivial,hs'.up (by omega),by omega⟩
theorem Zy4 (h:NB s k) (hk:k<=10000):
  Zpf s=true/\NB (Zah s).2 (k+300)/\(∃s1,NB s1 (k+1)/\(Zah s).1.2.1=(nMap s1).1)/\((Zah s).1.1=1\/(Zah s).1.1=2)/\
   (0<=(Zah s).1.2.2.1/\(Zah s).1.2.2.1<=2)/\∃l:List Cell,l.length<=200/\(Zah s).1.2.2.2.2.2.2=normX l:=by
 have hms:=mst;obtain⟨c0,b0,hch⟩:=ZVK h (by omega);obtain⟨c1,b1,l1⟩:=ZD7 b0 (by omega);obtain⟨c2,b2,w0,w1⟩:=Zv b1 (by omega) 3 (by decide) (by decide);obtain⟨c3,b3,_⟩:=Zv b2 (by omega) 4 (by decide) (by decide);obtain⟨c4,b4,_⟩:=Zv b3 (by omega) 6 (by decide) (by decide);obtain⟨c5,b5,_⟩:=ZlQ b4 (by omega);obtain⟨c6,b6,_⟩:=ZlQ b5 (by omega)
 obtain⟨s2,hs2,b7⟩:∃s2,s2=((bif (Zd (Zd (Zd (nMap (ZaZ s).2).2 3).2 4).2 6).1==0 then (ZcP (ZcP (Zd (Zd (Zd (nMap (ZaZ s).2).2 3).2 4).2 6).2).2).2.1 else (Zd (Zd (Zd (nMap (ZaZ s).2).2 3).2 4).2 6).2.1,
   bif (Zd (Zd (Zd (nMap (ZaZ s).2).2 3).2 4).2 6).1==0 then (ZcP (ZcP (Zd (Zd (Zd (nMap (ZaZ s).2).2 3).2 4).2 6).2).2).2.2 else (Zd (Zd (Zd (nMap (ZaZ s).2).2 3).2 4).2 6).2.2):List Int×Int)/\NB s2 (k+30):=by
  refine⟨_,rfl,?_⟩;cases (Zd (Zd (Zd (nMap (ZaZ s).2).2 3).2 4).2 6).1==0
  ·exact b4.up (by omega)
  ·exact b6.up (by omega)
 obtain⟨c8,b8,l8⟩:=ZD3 b7 (by omega) 12 (by omega);have c8:ZgF s2 12=true:=c8;have b8:NB (Zca s2 12).2 (k+30+1+10*((12:Nat):Int)):=b8;have l8:(Zca s2 12).1.length<=12*12:=l8;obtain⟨c9,b9,d0,d1⟩:=Zv b8 (by omega) 4 (by decide) (by decide);have hl:=Zzm 0 (Zca s2 12).1;obtain⟨q,hq⟩:∃q:Nat,(Zd (Zca s2 12).2 4).1=(q:Int):=⟨_,(Yam d0).symm⟩;have hg:∀l:List Cell,Stg.l (newG Zg9 Zha l)=l:=λ_=>rfl
 have key:∀x y z:BRDT,∀o:List Cell,o.length<=144->∃s' o',NB s' (k+200)/\o'.length<=200/\
   runF false Zfe (λ_=>400) ((q:Int),(Zd (Zca s2 12).2 4).2,x,y,o,())=some (false,0,s',x,y,o',()):=by
  intro x y z o ho;obtain⟨r,hr,h1,s',o',g1,g2,g3⟩:=ZH (fl:=false) (t:=Zfe) (fuel:=λ_=>400)
   (λa=>∃(i:Nat) (s':List Int×Int) (o:List Cell),i<=q/\NB s' (k+30+1+10*((12:Nat):Int)+1+4*((q-i:Nat):Int))/\o.length<=144+3*(q-i)/\a=((i:Int),s',x,y,o,()))
   (λa=>Int.toNat a.1) (λr=>r.1=false/\∃s' o',NB s' (k+200)/\o'.length<=200/\r.2=(0,s',x,y,o',()))
   (by
    rintro a ⟨i,s',o,hi,hs',ho,rfl⟩;cases i with
    |zero=>
     right;left;exact⟨_,by simp only[Zfe,RT.val];rfl,rfl,s',o,hs'.up (by omega),by omega,rfl⟩
    |succ i=>
     left;have d:decide (((i+1:Nat):Int)>0)=true:=Yq (by omega);have w:IntKind.wrap .i64 (((i+1:Nat):Int)-1)=(i:Int):=by rw[wrap_i64 _ (by omega) (by omega)];omega
     obtain⟨k0,b0,e0,e1⟩:=Zv hs' (by omega) 6 (by decide) (by decide);obtain⟨k1,b1,_⟩:=Zkh b0 (by omega);have r1:Ze (Zd s' 6).1 6=true:=ZC.2 ⟨e0,e1⟩;have hsb:∀a b c:Int,smB [a,b,c]=true:=λa b c=>ZW1 (by simp)
     have hll:=Zzm (IntKind.wrap .u16 (R.get (R.int .i64) [36,60,52,44,56,32] (Zd s' 6).1)) [(Zas (Zd s' 6).2).1,251,201];simp only[List.length_cons,List.length_nil] at hll;have hb:Nat.ble (o++Zqu (IntKind.wrap .u16 (R.get (R.int .i64) [36,60,52,44,56,32] (Zd s' 6).1)) [(Zas (Zd s' 6).2).1,251,201]).length most=true:=Zau (by rw[Yd];omega);refine⟨((i:Int),(Zas (Zd s' 6).2).2,x,y,o++Zqu (IntKind.wrap .u16 (R.get (R.int .i64) [36,60,52,44,56,32] (Zd s' 6).1)) [(Zas (Zd s' 6).2).1,251,201],()),?_,⟨i,_,_,by omega,b1.up (by omega),by rw[Yd];omega,rfl⟩,by simp only;omega⟩
     simp only[Zfe,RT.val,hg,List.length_cons,List.length_nil,Nat.reduceAdd,d,w,k0,k1,r1,hsb,hb,Ya,Yf,Yj,Yh,Yx])
   ((q:Int),(Zd (Zca s2 12).2 4).2,x,y,o,()) ⟨q,_,o,Ye _,b9.up (by omega),by omega,rfl⟩ (by simp only;omega)
  obtain⟨r1,r2⟩:=r;simp only at h1 g3;subst h1 g3;exact⟨s',o',g1,g2,hr⟩
 obtain⟨s',o',g1,g2,hr⟩:=key (0,[],0,0,0,false,[]) ((ZaZ s).1,(nMap (ZaZ s).2).1,(Zd (nMap (ZaZ s).2).2 3).1,bif (Zd (Zd (Zd (nMap (ZaZ s).2).2 3).2 4).2 6).1==0 then (ZcP (Zd (Zd (Zd (nMap (ZaZ s).2).2 3).2 4).2 6).2).1 else 0,
  bif (Zd (Zd (Zd (nMap (ZaZ s).2).2 3).2 4).2 6).1==0 then (ZcP (ZcP (Zd (Zd (Zd (nMap (ZaZ s).2).2 3).2 4).2 6).2).2).1 else 4,(Zd (Zd (nMap (ZaZ s).2).2 3).2 4).1==0,[]) (0,[],0,0,0,false,[]) (Zqu 0 (Zca s2 12).1) (by omega)
 have hsc:smC o'=true:=Z1L (by omega);have hsb:smB (Zca s2 12).1=true:=ZW1 (by omega);have hv:∃p d,(Zpe s).val=some (((ZaZ s).1,(nMap (ZaZ s).2).1,(Zd (nMap (ZaZ s).2).2 3).1,p,d,(Zd (Zd (nMap (ZaZ s).2).2 3).2 4).1==0,normX o'),s'):=by
  refine⟨bif (Zd (Zd (Zd (nMap (ZaZ s).2).2 3).2 4).2 6).1==0 then (ZcP (Zd (Zd (Zd (nMap (ZaZ s).2).2 3).2 4).2 6).2).1 else 0,
   bif (Zd (Zd (Zd (nMap (ZaZ s).2).2 3).2 4).2 6).1==0 then (ZcP (ZcP (Zd (Zd (Zd (nMap (ZaZ s).2).2 3).2 4).2 6).2).2).1 else 4,?_⟩
  simp only[Zpe,RT.val,hg,<-hs2,c0,c1,c2,c3,c4,c5,c6,c8,c9,hsb,hq,hr,hsc,okB,getO,Ya,Yf,Yj,Yh,Yx]
 obtain⟨p,d,hv⟩:=hv;have e1:Zpf s=true:=by simp only[Zpf,hv];rfl
 have e2:Zah s=(((ZaZ s).1,(nMap (ZaZ s).2).1,(Zd (nMap (ZaZ s).2).2 3).1,p,d,(Zd (Zd (nMap (ZaZ s).2).2 3).2 4).1==0,normX o'),s'):=by simp only[Zah,hv,getO]
 rw[e2];exact⟨e1,g1.up (by omega),⟨_,b0,rfl⟩,hch,⟨w0,by show (Zd (nMap (ZaZ s).2).2 3).1<=2;omega⟩,o',g2,rfl⟩
theorem ZYI (s:Int) {l:Int} (h:0<=l):vOnC s l=true:=by simp only[vOnC,vOnT,RT.val,Yq h,Ya,okB]
theorem Zsz (s k:Int):ZqI s k=true/\ -1<=ZhN s k/\ZhN s k<=7:=by
 obtain⟨r,hr,h0,h1,h2⟩:=ZH (fl:=false) (t:=Zip) (fuel:=λ_=>9)
  (λa=>∃(i:Nat) (m:Int),i<=8/\ -1<=m/\m<=7/\a=(s,k,m,(i:Int),()))
  (λa=>Int.toNat (8-a.2.2.2.1)) (λr=>r.1=false/\ -1<=r.2.2.2.1/\r.2.2.2.1<=7)
  (by
   rintro a ⟨i,m,hi,h1,h2,rfl⟩;by_cases hlt:i<8
   ·left;have d:decide ((i:Int)<8)=true:=Yq (by omega);have w:IntKind.wrap .i64 ((i:Int)+1)=((i+1:Nat):Int):=by rw[wrap_i64 _ (by omega) (by omega)];omega
    have c:vOnC s (i:Int)=true:=ZYI s (by omega);refine⟨(s,k,bif vOn s (i:Int)&&(decide (m<0)||decide (ZjK (i:Int) k<ZjK m k)) then (i:Int) else m,((i+1:Nat):Int),()),by simp only[Zip,RT.val,d,c,w,Ya],⟨i+1,_,by omega,?_,?_,rfl⟩,by simp only;omega⟩
    ·cases vOn s (i:Int)&&(decide (m<0)||decide (ZjK (i:Int) k<ZjK m k))<;>simp only[Ya,Yb]<;>omega
    ·cases vOn s (i:Int)&&(decide (m<0)||decide (ZjK (i:Int) k<ZjK m k))<;>simp only[Ya,Yb]<;>omega
   ·right;left;have d:decide ((i:Int)<8)=false:=Yv (by omega)
    exact⟨(s,k,m,(i:Int),()),by simp only[Zip,RT.val,d,Yb],rfl,h1,h2⟩)
  (s,k,-1,0,()) ⟨0,-1,by omega,by omega,by omega,rfl⟩ (by simp only;omega)
 obtain⟨r1,r2⟩:=r;simp only at h0 h1 h2;subst h0;have hv:(Zw8 s k).val=some r2.2.2.1:=by simp only[Zw8,RT.val,hr,okB,getO,Ya]
 exact⟨by simp only[ZqI,hv];rfl,by simp only[ZhN,hv,getO];exact h1,by simp only[ZhN,hv,getO];exact h2⟩
theorem ZAs (p:PICT):ZIU p=true/\ -1<=vPck p/\vPck p<=7:=by
 have key:∀r m s k q,∃v:Int,(Zw7 r m s k q).val=some v/\ -1<=v/\v<=7:=by
  intro r m s k q;have h1:=Zsz (Zcx .u8 r m) k;have h2:=Zsz (ZkJ m s q) k;simp only[Zw7,RT.val,h1.1,h2.1,Ya];cases decide (ZhN (Zcx .u8 r m) k>=0)&&(decide (ZhN (ZkJ m s q) k<0)||decide (ZjK (ZhN (Zcx .u8 r m) k) k<ZjK (ZhN (ZkJ m s q) k) k))
  ·exact⟨-1,rfl,by omega,by omega⟩
  ·exact⟨_,rfl,h1.2.1,h1.2.2⟩
 obtain⟨v,hv,h1,h2⟩:=key (vReq p) p.2.2.2.2.2.2.2.2.2.2.2.2.2.2.2.1 p.2.2.2.2.2.2.2.2.2.2.2.2.2.2.1 p.2.2.2.2.2.2.2.2.2.2.2.2.2.2.2.2.1 p.2.2.2.2.2.2.2.2.2.1;have e:(ZM2 p).val=some v:=by simp only[ZM2,RT.val,ZM1,ZYG,hv,okB,getO,Ya]
 exact⟨by simp only[ZIU,e];rfl,by simp only[vPck,e,getO];exact h1,by simp only[vPck,e,getO];exact h2⟩
theorem ZYL (p:PICT):ZTV p=true:=by simp only[ZTV,ZTU,RT.val,(ZAs p).1,Ya,okB]
variable {x:Int}
theorem ZFk (p:PICT) (h:0<=x):Zmj p x=true:=by simp only[Zmj,ZFl,RT.val,Yq h,Ya,okB]
theorem ZFB (p:PICT) (h:0<=x):Zmn p x=true:=by simp only[Zmn,ZFC,RT.val,Yq h,Ya,okB]
theorem ZYO (p:PICT):ZTY p=true:=by
 have h1:=(ZAs p).1;have h3:∀q:PICT,Zmn q (andI .i64 p.2.2.2.2.2.2.2.2.2.2.2.2.2.2.2.2.2.2.1 7)=true:=λq=>ZFB q (and7 _).1
 have h2:∀q:PICT,(!decide (vPck p>=0)||Zmj q (vPck p))=true:=λq=>by
  by_cases h:vPck p>=0
  ·rw[ZFk q h,Yh]
  ·rw[Yv h];rfl
 unfold ZTY ZTX;simp only[RT.val,h1,h2,h3,Yh,Ya];cases p.2.2.2.2.2.2.2.2.2.2.2.2.2.2.2.2.2.1==0
 ·cases p.2.2.2.2.2.2.2.2.2.2.2.2.2.2.2.2.2.1==1
  ·rfl
  ·cases p.2.2.1<;>rfl
 ·rfl
theorem ZTO (p:PICT) (h:Bool):ZFo p h=true:=by
 have h1:=(ZAs p).1;unfold ZFo ZFm;by_cases hx:0<=vPck p
 ·have h2:∀q:PICT,Zmj q (vPck p)=true:=λq=>ZFk q hx
  have h3:∀q:PICT,Zmn q (vPck p)=true:=λq=>ZFB q hx
  simp only[RT.val,h1,h2,h3,Zcg,Zbl,Yh,Yf,Ya];cases h
  ·cases p.2.2.2.2.2.2.2.2.2.2.2.1
   ·cases p.2.2.2.2.2.2.2.2.2.2.1<;>rfl
   ·cases decide (vPck p<0)<;>rfl
  ·rfl
 ·have h2:decide (vPck p<0)=true:=Yq (by omega);simp only[RT.val,h1,h2,Zcg,Zbl,Yh,Ys,Yf,Ya];cases h
  ·cases p.2.2.2.2.2.2.2.2.2.2.2.1
   ·cases p.2.2.2.2.2.2.2.2.2.2.1<;>rfl
   ·rfl
  ·rfl
theorem ZTT (p:PICT) (v:Int):ZFu p v=true:=by
 have h1:=λs k=>(Zsz s k).1
 have h2:∀x:Int,(!decide (x>=0)||decide (0<=x))=true:=λx=>by by_cases h:0<=x<;>simp[h]
 have h3:decide (0<=IntKind.wrap .i64 (andI .u8 v 7))=true:=by have:=and7b v;rw[wrap_i64 _ (by omega) (by omega)];exact Yq this.1
 unfold ZFu ZFt;simp only[RT.val,h1,h2,h3,Zcg,Zbl,Yh,Yf,Ya];rfl
theorem ZMK (p:PICT) (h:Bool) (v:Int):Zsu p h v=true:=by
 unfold Zsu Zss;simp only[RT.val,ZTT,Yh,Ya];cases h
 ·cases andI .u8 v 16 !=0
  ·cases andI .u8 v 8==0<;>rfl
  ·rfl
 ·rfl
theorem ZMS (d:QT7) (r:Int):Zsx d r=true:=by have h:=and3 r;have h1:decide (0<=andI .i64 r 3/\andI .i64 r 3<4)=true:=Yq ⟨h.1,by omega⟩;simp only[Zsx,Zsv,RT.val,h1,Ya,okB]
theorem ZeD (o:Bool) {n:Int} (h:0<=n):Zfq o n=true:=by simp only[Zfq,ZTM,RT.val,Yq h,Yh,Ya];cases o<;>rfl
theorem ZIP (l:List INPT) (hl:l.length<=1000):ZE9 l=true/\(Zl8 l).length=4*l.length:=by
 have hms:=mst;obtain⟨r,hr,h0,h1⟩:=ZH (fl:=false) (t:=ZdU) (fuel:=λ_=>1000000000000)
  (λa=>∃(i:Nat) (o:List Int),i<=l.length/\o.length=4*i/\a=(l,(l.length:Int),(i:Int),o,()))
  (λa=>Int.toNat (a.2.1-a.2.2.1)) (λr=>r.1=false/\r.2.2.2.2.1.length=4*l.length)
  (by
   rintro a ⟨i,o,hi,ho,rfl⟩;by_cases hlt:i<l.length
   ·left;have d:decide ((i:Int)<(l.length:Int))=true:=Yq (by omega);have d2:decide ((i:Int)>=65536)=false:=Yv (by omega);have hin:Ze (i:Int) l.length=true:=ZC.2 ⟨by omega,by omega⟩;have w:IntKind.wrap .i64 ((i:Int)+1)=((i+1:Nat):Int):=by rw[wrap_i64 _ (by omega) (by omega)];omega
    have hb:∀a b c d:Int,Nat.ble (o++[a,b,c,d]).length most=true:=λa b c d=>Zau (by simp;omega)
    have b0:=λx=>ZeD x (n:=0) (by decide)
    have b1:=λx=>ZeD x (n:=1) (by decide)
    have b2:=λx=>ZeD x (n:=2) (by decide)
    have b3:=λx=>ZeD x (n:=3) (by decide)
    have b4:=λx=>ZeD x (n:=4) (by decide)
    have b5:=λx=>ZeD x (n:=5) (by decide)
    have b6:=λx=>ZeD x (n:=6) (by decide)
    have b7:=λx=>ZeD x (n:=7) (by decide)
    have hv:∃a b c d:Int,(ZdU (l,(l.length:Int),(i:Int),o,())).val=some (Go1.cont (l,(l.length:Int),((i+1:Nat):Int),o++[a,b,c,d],())):=by simp only[ZdU,RT.val,d,d2,hin,w,hb,b0,b1,b2,b3,b4,b5,b6,b7,Zcg,Zbl,Yh,Yf,Yj,Yx,Ya,Yb];exact⟨_,_,_,_,rfl⟩
    obtain⟨a,b,c,d,hv⟩:=hv;exact⟨_,hv,⟨i+1,_,by omega,by simp;omega,rfl⟩,by simp only;omega⟩
   ·right;left;have d:decide ((i:Int)<(l.length:Int))=false:=Yv (by omega)
    exact⟨(l,(l.length:Int),(i:Int),o,()),by simp only[ZdU,RT.val,d,Yb],rfl,by simp only;omega⟩)
  (l,(l.length:Int),0,[],()) ⟨0,[],by omega,rfl,rfl⟩ (by simp only;omega)
 obtain⟨r1,r2⟩:=r;simp only at h0 h1;subst h0;have hv:(ZgX l).val=some r2.2.2.2.1:=by simp only[ZgX,RT.val,iN,hr,okB,getO,Ya]
 exact⟨by simp only[ZE9,hv];rfl,by simp only[Zl8,hv,getO];exact h1⟩
theorem Zqz (l:List Int) (hl:l.length<=4000):Zlj l=true/\(Zbg l).length=l.length/4:=by
 have hms:=mst;obtain⟨r,hr,h0,h1⟩:=ZH (fl:=false) (t:=ZcX) (fuel:=λ_=>1000000000000)
  (λa=>∃(i:Nat) (o:List INPT),4*i<=l.length/\o.length=i/\a=(l,((4*i:Nat):Int),o,()))
  (λa=>Int.toNat (l.length-a.2.1)) (λr=>r.1=false/\r.2.2.2.1.length=l.length/4)
  (by
   rintro a ⟨i,o,hi,ho,rfl⟩;have w1:IntKind.wrap .i64 (((4*i:Nat):Int)+1)=((4*i+1:Nat):Int):=by rw[wrap_i64 _ (by omega) (by omega)];omega
   have w2:IntKind.wrap .i64 (((4*i:Nat):Int)+2)=((4*i+2:Nat):Int):=by rw[wrap_i64 _ (by omega) (by omega)];omega
   have w3:IntKind.wrap .i64 (((4*i:Nat):Int)+3)=((4*i+3:Nat):Int):=by rw[wrap_i64 _ (by omega) (by omega)];omega
   have w4:IntKind.wrap .i64 (((4*i:Nat):Int)+4)=((4*(i+1):Nat):Int):=by rw[wrap_i64 _ (by omega) (by omega)];omega
   by_cases hlt:4*i+4<=l.length
   ·left;have d:(decide (((4*(i+1):Nat):Int)<=iN l.length)&&decide (iN o.length<65536))=true:=by simp only[iN,Yc,Ym];omega
    have i0:Ze ((4*i:Nat):Int) l.length=true:=ZC.2 ⟨by omega,by omega⟩;have i1:Ze ((4*i+1:Nat):Int) l.length=true:=ZC.2 ⟨by omega,by omega⟩;have i2:Ze ((4*i+2:Nat):Int) l.length=true:=ZC.2 ⟨by omega,by omega⟩;have i3:Ze ((4*i+3:Nat):Int) l.length=true:=ZC.2 ⟨by omega,by omega⟩;have hb:∀a:INPT,Nat.ble (o++[a]).length most=true:=λa=>Zau (by simp;omega)
    have hv:∃x:INPT,(ZcX (l,((4*i:Nat):Int),o,())).val=some (Go1.cont (l,((4*(i+1):Nat):Int),o++[x],())):=by
     simp only[ZcX,RT.val,w1,w2,w3,w4,d,i0,i1,i2,i3,hb,Zcg,Zbl,Yh,Yf,Yj,Yx,Ya,Yb];cases R.get (R.int .u8) l ((4*i+3:Nat):Int) !=Zw0 (R.get (R.int .u8) l ((4*i:Nat):Int)) (R.get (R.int .u8) l ((4*i+1:Nat):Int)) (R.get (R.int .u8) l ((4*i+2:Nat):Int))
     ·exact⟨_,rfl⟩
     ·exact⟨_,rfl⟩
    obtain⟨x,hv⟩:=hv;exact⟨_,hv,⟨i+1,_,by omega,by simp;omega,rfl⟩,by simp only;omega⟩
   ·right;left;have d:(decide (((4*(i+1):Nat):Int)<=iN l.length)&&decide (iN o.length<65536))=false:=by simp only[iN,Yae,Y4];left;omega
    exact⟨(l,((4*i:Nat):Int),o,()),by simp only[ZcX,RT.val,w4,d,Yb],rfl,by simp only;omega⟩)
  (l,0,[],()) ⟨0,[],by omega,rfl,rfl⟩ (by simp only;omega)
 obtain⟨r1,r2⟩:=r;simp only at h0 h1;subst h0;have hv:(Zii l).val=some r2.2.2.1:=by simp only[Zii,RT.val,hr,okB,getO,Ya]
 exact⟨by simp only[Zlj,hv];rfl,by simp only[Zbg,hv,getO];exact h1⟩
abbrev MacT:=List ZM×List Cell×List Int×List (Int×Int)
def doX (x:Cyc) (m:MacT):Int×MacT:=
 bif x.1==1||(x.1==2||x.1==4) then (ZeH m.1 m.2.1 x.2.1,m)
 else bif x.1==3||x.1==5 then (x.2.2.1,(m.1,ZaO m.1 m.2.1 x.2.1 x.2.2.1,m.2.2))
 else bif x.1==7 then (x.2.2.1,(m.1,m.2.1,m.2.2.1,m.2.2.2++[(IntKind.wrap .u8 x.2.1,x.2.2.1)]))
 else bif x.1==6||(x.1==8||x.1==9) then (m.2.2.1.getD 0 0,(m.1,m.2.1,m.2.2.1.drop 1,m.2.2.2))
 else (0,m)
def goX (c:CpuT) (s:Int):Nat->List Int->MacT->List Int×MacT
 |0,g,m=>(g,m)
 |n+1,g,m=>bif (Zh c s g).2 then goX c s n (g++[(doX (Zh c s g).1 m).1]) (doX (Zh c s g).1 m).2 else (g,m)
def Z1J (c:CpuT) (s:Int) (l:LnT) (m:MacT):CpuT×MacT×List Int:=
 (finX (Zi c s) s (goX (Zi c s) s 6 [] m).1 l,(goX (Zi c s) s 6 [] m).2,(goX (Zi c s) s 6 [] m).1)
variable {b:Bool}
theorem cle {x y:List Cyc} {n:Nat} (hx:x.length<=n) (hy:y.length<=n):(bif b then x else y).length<=n:=by cases b<;>assumption
theorem ZWr (c:CpuT) (inj:Bool) (g:List Int) (i:InsT):(ZfS c inj g i).length<=4:=by
 unfold ZfS;simp only[Zcf,ZhV,ZdA,ZbQ,popX];repeat' apply cle
 all_goals first
  |(simp only[List.length_cons,List.length_nil,Yd];omega)
  |(cases i.2.2.1==6<;>cases Zbk c i<;>cases c.1==2<;>simp;done)
  |skip
theorem ZU3 (c:CpuT) (s:Int) (g:List Int):(ZeC c s g).length<=5:=by
 have h:=λo=>ZWr c (s==5) g (Zb c.1 o)
 unfold ZeC;cases g with
 |nil=>exact cle (by simp[ZbQ]) (by simp)
 |cons o l=>exact cle (by simp[ZbQ]) (by simpa using h o)
def okK (x:Cyc):Bool:=(decide (1<=x.1)&&decide (x.1<=9))||x.2.2.1==0
theorem okc {x y:List Cyc} (hx:x.all okK=true) (hy:y.all okK=true):(bif b then x else y).all okK=true:=by cases b<;>assumption
theorem Z1n (c:CpuT) (inj:Bool) (g:List Int) (i:InsT):(ZfS c inj g i).all okK=true:=by
 have h1:∀k,okK (opC c inj k)=true:=λk=>by cases inj<;>rfl
 have ha:∀(b:Bool) (x y:List Cyc),(bif b then x else y).all okK=bif b then x.all okK else y.all okK:=λb x y=>by cases b<;>rfl
 have hc:∀b:Bool,(bif b then true else true)=true:=λb=>by cases b<;>rfl
 have hk:∀(k a d s:Int),1<=k->k<=9->okK (k,a,d,s)=true:=λk a d s h1 h2=>by simp[okK,h1,h2]
 have h0:∀(k a s:Int),okK (k,a,0,s)=true:=λk a s=>by simp[okK]
 have h3:∀a d s,okK (3,a,d,s)=true:=λa d s=>hk 3 a d s (by omega) (by omega)
 have h5:∀a d s,okK (5,a,d,s)=true:=λa d s=>hk 5 a d s (by omega) (by omega)
 have h7:∀a d s,okK (7,a,d,s)=true:=λa d s=>hk 7 a d s (by omega) (by omega)
 simp only[ZfS,Zcf,ZhV,ZdA,ZbQ,popX,ZgM,ha,List.all_cons,List.all_nil,List.all_append,h1,h0,h3,h5,h7,YY,hc]
theorem ZZS (c:CpuT) (s:Int) (g:List Int):(ZeC c s g).all okK=true:=by
 have h:=λo=>Z1n c (s==5) g (Zb c.1 o)
 have h5:∀a d s,okK (5,a,d,s)=true:=λa d s=>by rfl
 unfold ZeC;cases g with
 |nil=>exact okc (by simp[ZbQ,h5];rfl) (by simp[okK])
 |cons o l=>exact okc (by simp[ZbQ,h5];rfl) (by rw[List.all_cons,h o];simp[okK])
theorem Z0G (c:CpuT) (s:Int) (g:List Int) (h:(Zh c s g).2=true):okK (Zh c s g).1=true:=by
 have hp:=ZZS c s g;unfold Zh at*;generalize ZeC c s g=p at*;by_cases hg:g.length<p.length
 ·have:(pick p g.length).1∈p:=by simp[pick,hg,Yi] at h|-
  exact Y2.1 hp _ this
 ·simp[pick,hg] at h
theorem ZHM (c:CpuT) (s:Int) (g:List Int) (h:5<=g.length):(Zh c s g).2=false:=by have hp:=ZU3 c s g;unfold Zh;simp[pick];omega
theorem Zl2 (l:List ZM) (m:List Cell) (t v:Int):Vld (ZaO l m t v):=by
 unfold ZaO;cases decide (Zbi l t>=0)&&(R.get GR l (Zbi l t)).2.2.1
 ·exact Zdm m
 ·exact Zuo (Zdm m)
theorem Zf5 (l:List ZM) (m:List Cell) (t v:Int):(ZaO l m t v).length<=m.length+1:=by
 have h:=ZbU m;unfold ZaO;cases decide (Zbi l t>=0)&&(R.get GR l (Zbi l t)).2.2.1
 ·exact YT h (YaD _)
 ·exact YT (Zuq _ _) (by omega)
theorem Z2U (x:Cyc) (m:MacT):(doX x m).2.1=m.1/\(Vld m.2.1->Vld (doX x m).2.2.1)/\(doX x m).2.2.1.length<=m.2.1.length+1/\
  (doX x m).2.2.2.1.length<=m.2.2.1.length/\(doX x m).2.2.2.2.length<=m.2.2.2.length+1:=by
 unfold doX;have hl:=Zf5 m.1 m.2.1 x.2.1 x.2.2.1;have hv:=Zl2 m.1 m.2.1 x.2.1 x.2.2.1;cases x.1==1||(x.1==2||x.1==4)
 ·cases x.1==3||x.1==5
  ·cases x.1==7
   ·cases x.1==6||(x.1==8||x.1==9)
    ·exact⟨rfl,id,by simp,by simp,by simp⟩
    ·exact⟨rfl,id,by simp,by simp,by simp⟩
   ·exact⟨rfl,id,by simp,by simp,by simp⟩
  ·exact⟨rfl,λ_=>hv,hl,by simp,by simp⟩
 ·exact⟨rfl,id,by simp,by simp,by simp⟩
def pre (o:List (Int×Int)) (m:MacT):MacT:=(m.1,m.2.1,m.2.2.1,o++m.2.2.2)
def hits (c:CpuT) (s t:Int) (g:List Int):Bool:=(Zh c s g).2&&((Zh c s g).1.2.1==t&&((Zh c s g).1.1==3||(Zh c s g).1.1==5))
end
end Go.Proofs.YtghoimllhpjkjaaGreat
