import Derived.Test.YtpnjbfjomebppaaGreatRunL
import Derived.Test.YtpnjbfjomebppaaGreatS3New
open Go.Proofs.Tryz (prog)
open Go.IntKind (u8 u16 i64)
set_option linter.unusedSimpArgs false
open Go Go.S3 Go.Proofs
set_option linter.unusedVariables false
set_option maxRecDepth 100000
namespace Go.Proofs.YtpnjbfjomebppaaGreat
noncomputable section
abbrev Zsp:R:=R.Pq (R.int u16) (R.int u8)
abbrev Zsq:Nat:=75
abbrev ZzK:List Sh:=[Sh.one rcCE,Sh.agg (R.Pq (R.int u16) (R.int u8))]
def ZPX:LS:={n:=53,Sl:=[(3,.fix (A.loc 0 0)),(5,.tip 0),(6,.code (Sh.one R.bool)),(9,.code (Sh.one rcCE)),(10,.code (Sh.one (R.int i64))),(11,.code (Sh.one (R.int i64)))],Bx:=[[.many (R.Pq (R.int u16) (R.int u8))]],Sg:=[⟨(R.Pq (R.int u16) (R.int u8)),75,false⟩]}
def ZDu (a:QT9):RT (Option (Go1 (QT9))):=
 let x1:Int×Int:=R.get (R.Pq (R.int u16) (R.int u8)) a.2.1 a.2.2.2.1
 let x2:=x1.1
 let x3:= !a.1&&decide (x2>=a.2.2.2.2.1.1)
 let x4:List (Int×Int):=a.2.2.2.2.2.1++[a.2.2.2.2.1]
 let x5:= !x3||(!a.2.2.2.2.1.2 !=0||Nat.ble (List.length x4) most)
 let x6:=x2 !=a.2.2.2.2.1.1
 let x7:List (Int×Int):=bif x3 then bif a.2.2.2.2.1.2 !=0 then x4 else a.2.2.2.2.2.1 else a.2.2.2.2.2.1
 let x8:List (Int×Int):=x7++[x1]
 .br (decide (a.2.2.2.1<a.2.2.1)) (.br (!Zf a.2.2.2.1 (List.length a.2.1)||(!x5||(!x6||Nat.ble (List.length x8) most))) (.br (!Zf a.2.2.2.1 (List.length a.2.1)||x5) (.br (Zf a.2.2.2.1 (List.length a.2.1)) (.Lf (some (Go1.cont (x3||a.1,a.2.1,a.2.2.1,i64.wrap (a.2.2.2.1+1),a.2.2.2.2.1,bif x6 then x8 else x7,PUnit.unit)))) (.Lf none)) (.Lf none)) (.Lf none)) (.Lf (some (Go1.brk (a.1,a.2.1,a.2.2.1,a.2.2.2.1,a.2.2.2.2.1,a.2.2.2.2.2.1,PUnit.unit))))
def ZDv:Ora:=ZbI false ZPX ZDu (λa=>1000000000000)
theorem ZGg:Zbg (envX prog [] [] 511 8) (.block 0 (.loop (Z7 Tryz.f165.body 0))) ZDv:=
 loopP trivial
def ZDt (m:List (Int×Int)) (c:Int×Int):RT (Option (List (Int×Int))):=
 let x1:QT9:=(false,m,iN (List.length m),0,c,[],())
 let x2:=runF false ZDu (λa=>1000000000000) x1
 let x3:QT9:=(getO (false,x1) x2).2
 let x4:=x3.2.2.2.2
 let x5:=x4.1
 let x6:= !x3.1&&x5.2 !=0
 let x7:=x4.2.1
 let x8:List (Int×Int):=x7++[x5]
 .br (okB x2) (.br (!x6||Nat.ble (List.length x8) most) (.Lf (some (bif x6 then x8 else x7))) (.Lf none)) (.Lf none)
def ZPY (m:List (Int×Int)) (c:Int×Int):List (Int×Int):=getO [] (ZDt m c).val
def ZDw (m:List (Int×Int)) (c:Int×Int):Bool:=okB (ZDt m c).val
def ZKg:En:=frzE (newE Zsp Zsq ZzK (λa=>some (ZDw a.1 a.2)) (λa=>ZPY a.1 a.2))
theorem ZKh:Zb prog 165 (newE Zsp Zsq ZzK (λa=>some (ZDw a.1 a.2)) (λa=>ZPY a.1 a.2)):=
 Zl0 (P:=prog) (n:=511) (k:=8) (l:=[]) (ol:=[(0,ZDv)]) trivial Tryz.func165 rfl (by kernel_rfl) Tryz.call165 ⟨ZGg,Tv⟩ (r:=Zsp) (T:=Zsq) (ts:=ZzK) (t:=λa=>ZDt a.1 a.2) (λa=>by kernel_rfl)
theorem ZDs:Zb prog 165 ZKg:=Zyu ZKh
abbrev ZlM:R:=R.Pq (R.int u16) (R.int u8)
abbrev ZlN:Nat:=75
abbrev Zsu:List Sh:=[Sh.one rcCE]
def ZKn:LS:={n:=21,Sl:=[(3,.tip 0),(10,.code (Sh.one rcCE)),(11,.code (Sh.one (R.int i64))),(12,.code (Sh.one (R.int i64)))],Bx:=[],Sg:=[⟨(R.Pq (R.int u16) (R.int u8)),75,false⟩]}
def Zgz (a:List (Int×Int)×Int×Int×List (Int×Int)×PUnit):RT (Option (Go1 (List (Int×Int)×Int×Int×List (Int×Int)×PUnit))):=
 .br (decide (a.2.2.1<a.2.1)) (.br (!Zf a.2.2.1 (List.length a.1)||ZDw a.2.2.2.1 (R.get (R.Pq (R.int u16) (R.int u8)) a.1 a.2.2.1)) (.br (Zf a.2.2.1 (List.length a.1)) (.Lf (some (Go1.cont (a.1,a.2.1,i64.wrap (a.2.2.1+1),Stg.l (newG Zsp Zsq (ZPY a.2.2.2.1 (R.get (R.Pq (R.int u16) (R.int u8)) a.1 a.2.2.1))),PUnit.unit)))) (.Lf none)) (.Lf none)) (.Lf (some (Go1.brk (a.1,a.2.1,a.2.2.1,a.2.2.2.1,PUnit.unit))))
def Zwa:Ora:=ZbI false ZKn Zgz (λa=>1000000000000)
theorem ZzN:Zbg (envX prog [(105,Zsj),(165,ZKg)] [] 63 8) (.block 0 (.loop (Z7 Tryz.f93.body 0))) Zwa:=
 loopP ⟨Zqw,ZDs,Tv⟩
def Zkg (l:List (Int×Int)):RT (Option (List (Int×Int))):=
 let x1:=runF false Zgz (λa=>1000000000000) (l,iN (List.length l),0,[],())
 .br (smC l) (.br (!vldB l||Nat.ble (List.length ([]++l)) most) (.br (vldB l) (.Lf (some ([]++l))) (.br (okB x1) (.Lf (some (getO (false,l,iN (List.length l),0,[],()) x1).2.2.2.2.1)) (.Lf none))) (.Lf none)) (.Lf none)
def Zwb (l:List (Int×Int)):List (Int×Int):=getO [] (Zkg l).val
def Zm2 (l:List (Int×Int)):Bool:=okB (Zkg l).val
def ZzO:En:=frzE (newE ZlM ZlN Zsu (λa=>some (Zm2 a)) (λa=>Zwb a))
theorem ZGi:Zb prog 93 (newE ZlM ZlN Zsu (λa=>some (Zm2 a)) (λa=>Zwb a)):=
 Zl0 (P:=prog) (n:=63) (k:=8) (l:=[(105,Zsj),(165,ZKg)]) (ol:=[(0,Zwa)]) ⟨Zqw,ZDs,Tv⟩ Tryz.func93 rfl (by kernel_rfl) Tryz.call93 ⟨ZzN,Tv⟩ (r:=ZlM) (T:=ZlN) (ts:=Zsu) (t:=λa=>Zkg a) (λa=>by kernel_rfl)
theorem Zv9:Zb prog 93 ZzO:=Zyu ZGi
abbrev Zhp:R:=R.Pq (R.int u16) (R.int u8)
abbrev Zhq:Nat:=75
abbrev Zsv:List Sh:=[Sh.one (R.int u16),Sh.one (R.sl (R.int u8))]
def ZKp:LS:={n:=27,Sl:=[(0,.code (Sh.one (R.int u16))),(1,.code (Sh.one (R.sl (R.int u8)))),(5,.tip 0),(8,.code (Sh.one (R.int i64))),(9,.code (Sh.one (R.int i64)))],Bx:=[],Sg:=[⟨(R.Pq (R.int u16) (R.int u8)),75,true⟩]}
def ZgA (a:QT30):RT (Option (Go1 (QT30))):=
 let x1:List (Int×Int):=a.2.2.2.2.1++[(u16.wrap (a.1+u16.wrap a.2.2.2.1),R.get (R.int u8) a.2.1 a.2.2.2.1)]
 let x2:= !Zf a.2.2.2.1 (List.length a.2.1)||Nat.ble (List.length x1) most
 .br (decide (a.2.2.2.1<a.2.2.1)) (.br (!x2||Zf a.2.2.2.1 (List.length a.2.1)) (.br (x2) (.Lf (some (Go1.cont (a.1,a.2.1,a.2.2.1,i64.wrap (a.2.2.2.1+1),x1,PUnit.unit)))) (.Lf none)) (.Lf none)) (.Lf (some (Go1.brk (a.1,a.2.1,a.2.2.1,a.2.2.2.1,a.2.2.2.2.1,PUnit.unit))))
def ZwP:Ora:=ZbI false ZKp ZgA (λa=>1000000000000)
theorem ZzQ:Zbg (envX prog [(93,ZzO)] [] 127 8) (.block 0 (.loop (Z7 Tryz.f59.body 0))) ZwP:=
 loopP ⟨Zv9,Tv⟩
def Zm3 (t:Int) (b:List Int):RT (Option (List (Int×Int))):=
 let x1:=runF false ZgA (λa=>1000000000000) (t,b,iN (List.length b),0,[],())
 let x2:List (Int×Int):=(getO (false,t,b,iN (List.length b),0,[],()) x1).2.2.2.2.2.1
 .br (okB x1) (.br (Zm2 x2) (.Lf (some (Stg.l (newG ZlM ZlN (Zwb x2))))) (.Lf none)) (.Lf none)
def ZKq (t:Int) (b:List Int):List (Int×Int):=getO [] (Zm3 t b).val
def ZzR (t:Int) (b:List Int):Bool:=okB (Zm3 t b).val
theorem ZGk:Zb prog 59 (newE Zhp Zhq Zsv (λa=>some (ZzR a.1 a.2)) (λa=>ZKq a.1 a.2)):=
 Zl0 (P:=prog) (n:=127) (k:=8) (l:=[(93,ZzO)]) (ol:=[(0,ZwP)]) ⟨Zv9,Tv⟩ Tryz.func59 rfl (by kernel_rfl) Tryz.call59 ⟨ZzQ,Tv⟩ (r:=Zhp) (T:=Zhq) (ts:=Zsv) (t:=λa=>Zm3 a.1 a.2) (λa=>by kernel_rfl)
end
end Go.Proofs.YtpnjbfjomebppaaGreat
open Go Go.S3 Go.Proofs Go.Proofs.Cells
namespace Go.Proofs.YtpnjbfjomebppaaGreat
noncomputable section
theorem ZJQ (m:List Cell) (c:Cell) (hv:Vld m) (hm:m.length+1<=most):ZDw m c=true/\ZPY m c=putX m c:=by have h:=ZvW m c hv hm;have e:ZDt m c=Zqx m c:=rfl;simp only[Zv6,ZKk,<-e] at h;exact h
theorem ZGa (l:List Cell) (hl:l.length+1<=most):Zm2 l=true/\Zwb l=normX l:=by
 have hms:=mst;have hs:smC l=true:=(ZvN.2 hl:sm l=true);have hv:(Zkg l).val=some (normX l):=by
  cases hb:vldB l with
  |true=>
   have e:Nat.ble l.length most=true:=by rw[YB];omega
   simp only[Zkg,RT.val,hs,hb,List.nil_append,e,Ya,Yf,Yi,Zfl (Zg9.1 hb)]
  |false=>
   obtain⟨r,hr,h1,i,hR⟩:=ZC (fl:=false) (t:=Zgz) (fuel:=λa=>1000000000000)
    (λa=>∃i:Nat,i<=l.length/\a=(l,(l.length:Int),(i:Int),normX (l.take i),()))
    (λa=>Int.toNat (a.2.1-a.2.2.1)) (λr=>r.1=false/\∃i:Nat,r.2=(l,(l.length:Int),(i:Int),normX l,()))
    (by
     rintro a ⟨i,hi,rfl⟩;by_cases hlt:i<l.length
     ·left;have d:decide ((i:Int)<(l.length:Int))=true:=by simpa using hlt
      have r1:=ZaD l i hlt;have hlen:=Zep (l.take i);rw[YI] at hlen;have hp:=ZJQ (normX (l.take i)) (el l i) (Zjj _) (by omega);refine⟨_,?_,⟨i+1,hlt,rfl⟩,by simp only;omega⟩;rw[Zzf l i hlt,Zkx];simp only[Zgz,RT.val,d,r1,Zc0,hp.1,hp.2,Ya,Yh,ZhH i (by omega)]
     ·right;left;have d:decide ((i:Int)<(l.length:Int))=false:=by simpa using hlt
      have e:l.take i=l:=YZ (by omega);rw[e]
      exact⟨_,by simp only[Zgz,RT.val,d,Yc],rfl,i,rfl⟩)
    (l,iN l.length,0,[],()) ⟨0,Yu _,rfl⟩ (by simp only[iN];omega)
   obtain⟨r1,r2⟩:=r;simp only at h1 hR;subst h1 hR;simp only[Zkg,RT.val,hs,hb,hr,okB,getO,Ya,Yc,Ym,Yv]
 exact⟨by simp only[Zm2,hv];rfl,by simp only[Zwb,hv,getO]⟩
theorem ZGb (t:Int) (b:List Int) (hb:b.length+1<=most):ZzR t b=true/\ZKq t b=ZpV t b:=by
 have hms:=mst;obtain⟨r,hr,h1,hR⟩:=ZC (fl:=false) (t:=ZgA) (fuel:=λa=>1000000000000)
  (λa=>∃i:Nat,i<=b.length/\a=(t,b,(b.length:Int),(i:Int),Zo2 t b i,()))
  (λa=>Int.toNat (a.2.2.1-a.2.2.2.1)) (λr=>r.1=false/\r.2=(t,b,(b.length:Int),(b.length:Int),Zo2 t b b.length,()))
  (by
   rintro a ⟨i,hi,rfl⟩;by_cases hlt:i<b.length
   ·left;have d:decide ((i:Int)<(b.length:Int))=true:=by simpa using hlt
    have r1:=ZaD b i hlt;have hl:∀x:Cell,Nat.ble (Zo2 t b i++[x]).length most=true:=λx=>by rw[YB,Yd,Zo1];simp only[List.length_singleton];omega
    refine⟨_,?_,⟨i+1,hlt,rfl⟩,by simp only;omega⟩;rw[ZHX];have g:=get_d b i;simp only[ZgA,RT.val,d,r1,g,hl,Ya,Yf,Yi,ZhH i (by omega)]
   ·right;left;have d:decide ((i:Int)<(b.length:Int))=false:=by simpa using hlt
    have e:i=b.length:=by omega
    subst e
    exact⟨_,by simp only[ZgA,RT.val,d,Yc],rfl,rfl⟩)
  (t,b,iN b.length,0,[],()) ⟨0,Yu _,rfl⟩ (by simp only[iN];omega)
 obtain⟨r1,r2⟩:=r;simp only at h1 hR;subst h1 hR;have hn:=ZGa (Zo2 t b b.length) (by rw[Zo1];exact hb);have hv:(Zm3 t b).val=some (ZpV t b):=by simp only[Zm3,RT.val,hr,okB,getO,Ya,hn.1,hn.2,ZpV]
 exact⟨by simp only[ZzR,hv];rfl,by simp only[ZKq,hv,getO]⟩
def Zsw:En:=frzE (newE Zhp Zhq Zsv (λa=>some (smB a.2)) (λa=>ZpV a.1 a.2))
theorem Zqz:Zb Tryz.prog 59 Zsw:=Zyu (ZHG ZGk λa _ h=>by
 have hb:smB a.2=true:=by cases hq:smB a.2 with
  |true=>rfl
  |false=>rw[hq] at h;exact absurd rfl h
 obtain⟨h1,h2⟩:=ZGb a.1 a.2 (ZvN.1 hb)
 exact⟨by rw[h1];simp,h2⟩)
abbrev ZBZ:R:=R.Pq (R.sl (R.int i64)) (R.int i64)
abbrev ZNk:List Sh:=[]
abbrev ZBY:Rs:=Rs.one (Sh.one R.bool)
def ZE3 (s:List Int×Int):RT (Option (Bool×List Int×Int)):=
 .br (Zj s 2) (.Lf (some (((Za s 2).1==1,(Za s 2).2)))) (.Lf none)
def Zai (s:List Int×Int):Bool×List Int×Int:=getO (ZBY.Df,ZBZ.Df) (ZE3 s).val
def Zbw (s:List Int×Int):Bool:=okB (ZE3 s).val
def ZSU:En:=boxE ZBZ ZNk ZBY (λa=>some (Zbw a.1)) (λa=>Zai a.1)
theorem ZQ8:Zb prog 69 ZSU:=
 ZcJ (P:=prog) (n:=7) (k:=8) (l:=[(68,ZcW)]) (ol:=[]) ⟨Zbf,Tv⟩ Tryz.func69 rfl (by kernel_rfl) Tryz.call69 trivial (rb:=ZBZ) (ts:=ZNk) (rs:=ZBY) (t:=λa=>ZE3 a.1) (λa=>by kernel_rfl)
abbrev Zd3:R:=R.Pq (R.int u16) (R.Pq (R.int u16) (R.Pq R.bool (R.int i64)))
abbrev Zd4:Nat:=110
abbrev Zhv:R:=R.Pq (R.sl (R.int i64)) (R.int i64)
abbrev Zky:List Sh:=[Sh.one (R.int i64)]
def ZBR:LS:={n:=44,Sl:=[(0,.fix (A.loc 0 0)),(5,.tip 0),(6,.code (Sh.one (R.int i64)))],Bx:=[[.many (R.Pq (R.sl (R.int i64)) (R.int i64))]],Sg:=[⟨(R.Pq (R.int u16) (R.Pq (R.int u16) (R.Pq R.bool (R.int i64)))),110,false⟩]}
def Zb6 (a:QT20):RT (Option (Go1 (QT20))):=
 let x1:= !Zj (ZaW a.2.1).2 6||Zf (Za (ZaW a.2.1).2 6).1 (List.length [0,3,15,255,4095,65535])
 let x2:= !x1
 let x3:= !Zj (Za (Za (ZaW a.2.1).2 6).2 3).2 5
 let x4:Int:=(Za (Za (Za (ZaW a.2.1).2 6).2 3).2 5).1
 let x5:=Zf x4 (List.length [0,0,1,2,5])
 let x6:=i64.wrap (i64.wrap (ZaW a.2.1).1+R.get (R.int i64) [0,3,15,255,4095,65535] (Za (ZaW a.2.1).2 6).1)
 let x7:List (QT7):=a.2.2.1++[((ZaW a.2.1).1,u16.wrap (if 65535<x6 then 65535 else x6),decide ((Za (Za (ZaW a.2.1).2 6).2 3).1>0),R.get (R.int i64) [0,0,1,2,5] x4)]
 let x8:= !Zj (Za (ZaW a.2.1).2 6).2 3||(x3||(!x5||Nat.ble (List.length x7) most))
 let x9:= !x8
 let x10:= !Zj (Za (ZaW a.2.1).2 6).2 3||(x3||x5)
 let x11:= !x10
 let x12:= !Zj (Za (ZaW a.2.1).2 6).2 3||Zj (Za (Za (ZaW a.2.1).2 6).2 3).2 5
 .br (decide (a.1>0)) (.br (!Zf9 a.2.1||(x2||(!Zj (ZaW a.2.1).2 6||(x9||(x11||(!x12||Zj (Za (ZaW a.2.1).2 6).2 3)))))) (.br (!Zf9 a.2.1||(x2||(!Zj (ZaW a.2.1).2 6||(x9||(x11||x12))))) (.br (!Zf9 a.2.1||(x2||(!Zj (ZaW a.2.1).2 6||(x9||x10)))) (.br (!Zf9 a.2.1||(x2||(!Zj (ZaW a.2.1).2 6||x8))) (.br (!Zf9 a.2.1||(x2||Zj (ZaW a.2.1).2 6)) (.br (!Zf9 a.2.1||x1) (.br (Zf9 a.2.1) (.Lf (some (Go1.cont (i64.wrap (a.1-1),(Za (Za (Za (ZaW a.2.1).2 6).2 3).2 5).2,x7,PUnit.unit)))) (.Lf none)) (.Lf none)) (.Lf none)) (.Lf none)) (.Lf none)) (.Lf none)) (.Lf none)) (.Lf (some (Go1.brk (a.1,a.2.1,a.2.2.1,PUnit.unit))))
def ZoC:Ora:=ZbI false ZBR Zb6 (λa=>400)
theorem Zuq:Zbg (envX prog [(68,ZcW),(70,ZNe)] [] 511 8) (.block 0 (.loop (Z7 Tryz.f188.body 0))) ZoC:=
 loopP ⟨Zbf,ZEY,Tv⟩
def Zer (s:List Int×Int) (n:Int):RT (Option (List (QT7)×List Int×Int)):=
 let x1:QT20:=((Za s (i64.wrap (n+1))).1,(Za s (i64.wrap (n+1))).2,[],())
 let x2:=runF false Zb6 (λa=>400) x1
 let x3:(List Int×Int)×List (QT7)×PUnit:=(getO (false,x1) x2).2.2
 .br (Zj s (i64.wrap (n+1))) (.br (okB x2) (.Lf (some ((x3.2.1,x3.1)))) (.Lf none)) (.Lf none)
def ZQ (s:List Int×Int) (n:Int):List (QT7)×List Int×Int:=getO ([],Zhv.Df) (Zer s n).val
def Zb7 (s:List Int×Int) (n:Int):Bool:=okB (Zer s n).val
def ZxO:En:=frzE (ZHI Zhv Zd3 Zd4 Zky (λa=>some (Zb7 a.1 a.2)) (λa=>ZQ a.1 a.2))
theorem ZxP:Zb prog 188 (ZHI Zhv Zd3 Zd4 Zky (λa=>some (Zb7 a.1 a.2)) (λa=>ZQ a.1 a.2)):=
 ZNb (P:=prog) (n:=511) (k:=8) (l:=[(68,ZcW),(70,ZNe)]) (ol:=[(0,ZoC)]) ⟨Zbf,ZEY,Tv⟩ Tryz.func188 rfl (by kernel_rfl) Tryz.call188 ⟨Zuq,Tv⟩ (rb:=Zhv) (r:=Zd3) (T:=Zd4) (ts:=Zky) (t:=λa=>Zer a.1 a.2) (λa=>by kernel_rfl)
theorem ZBP:Zb prog 188 ZxO:=Zyu ZxP
abbrev ZNi:R:=R.Pq (R.sl (R.int i64)) (R.int i64)
abbrev ZST:List Sh:=[]
abbrev ZNh:Rs:=Rs.one (Sh.one rcRG)
def ZBX (s:List Int×Int):RT (Option (List (QT7)×List Int×Int)):=
 let x1:List (QT7):=Stg.l (newG Zd3 Zd4 (ZQ s 2).1)++[(0,65535,true,i64.wrap (Int.tdiv (Za (ZQ s 2).2 3).1 2))]
 .br (!Zb7 s 2||(!Zj (ZQ s 2).2 3||Nat.ble (List.length x1) most)) (.br (!Zb7 s 2||Zj (ZQ s 2).2 3) (.br (Zb7 s 2) (.Lf (some ((x1,(Za (ZQ s 2).2 3).2)))) (.Lf none)) (.Lf none)) (.Lf none)
def nMap (s:List Int×Int):List (QT7)×List Int×Int:=getO (ZNh.Df,ZNi.Df) (ZBX s).val
def ZHL (s:List Int×Int):Bool:=okB (ZBX s).val
def ZVs:En:=boxE ZNi ZST ZNh (λa=>some (ZHL a.1)) (λa=>nMap a.1)
theorem ZNg:Zb prog 123 ZVs:=
 ZcJ (P:=prog) (n:=7) (k:=8) (l:=[(68,ZcW),(188,ZxO)]) (ol:=[]) ⟨Zbf,ZBP,Tv⟩ Tryz.func123 rfl (by kernel_rfl) Tryz.call123 trivial (rb:=ZNi) (ts:=ZST) (rs:=ZNh) (t:=λa=>ZBX a.1) (λa=>by kernel_rfl)
abbrev ZkA:R:=R.Pq (R.sl (R.int i64)) (R.int i64)
abbrev Zq3:List Sh:=[Sh.one (R.int i64)]
abbrev Zkz:Rs:=Rs.one (Sh.one (R.sl (R.int u8)))
def ZBT:LS:={n:=75,Sl:=[(0,.fix (A.loc 0 0)),(5,.tip 0),(6,.code (Sh.one (R.int i64)))],Bx:=[[.many (R.Pq (R.sl (R.int i64)) (R.int i64))]],Sg:=[⟨(R.int u8),5,true⟩]}
def Zdk (a:QT28):RT (Option (Go1 (QT28))):=
 let x1:=Zf (Za (Za a.2.1 8).2 4).1 (List.length [33,49,1,17])
 let x2:= !x1
 let x3:=Zj (Za (Za (Za a.2.1 8).2 4).2 256).2 4
 let x4:= !x3
 let x5:=Za (Za (Za (Za a.2.1 8).2 4).2 256).2 4
 let x6:=x5.1
 let x7:=Zf x6 (List.length [0,0,1,255])
 let x8:List Int:=a.2.2.1++[R.get (R.int u8) [33,49,1,17] (Za (Za a.2.1 8).2 4).1,u8.wrap (Za (Za (Za a.2.1 8).2 4).2 256).1,R.get (R.int u8) [0,0,1,255] x6]
 let x9:= !(Za a.2.1 8).1==0||(!Zj (Za a.2.1 8).2 4||(x2||(!Zj (Za (Za a.2.1 8).2 4).2 256||(x4||(!x7||Nat.ble (List.length x8) most)))))
 let x10:= !x9
 let x11:= !(Za a.2.1 8).1==0||(!Zj (Za a.2.1 8).2 4||(x2||(!Zj (Za (Za a.2.1 8).2 4).2 256||(x4||x7))))
 let x12:= !x11
 let x13:= !(Za a.2.1 8).1==0||(!Zj (Za a.2.1 8).2 4||(x2||(!Zj (Za (Za a.2.1 8).2 4).2 256||x3)))
 let x14:= !x13
 let x15:= !(Za a.2.1 8).1==0||(!Zj (Za a.2.1 8).2 4||(x2||Zj (Za (Za a.2.1 8).2 4).2 256))
 let x16:= !x15
 let x17:= !(Za a.2.1 8).1==0||(!Zj (Za a.2.1 8).2 4||x1)
 let x18:= !x17
 let x19:= !(Za a.2.1 8).1==0||Zj (Za a.2.1 8).2 4
 let x20:= !x19
 let x21:List Int:=a.2.2.1++[62,(Zc7 (Za a.2.1 8).2).1,211,u8.wrap (Za (Zc7 (Za a.2.1 8).2).2 8).1]
 let x22:=(Za a.2.1 8).1==0||(!(Za a.2.1 8).1==1||(!ZgR (Za a.2.1 8).2||(!Zj (Zc7 (Za a.2.1 8).2).2 8||Nat.ble (List.length x21) most)))
 let x23:= !x22
 let x24:=(Za a.2.1 8).1==0||(!(Za a.2.1 8).1==1||(!ZgR (Za a.2.1 8).2||Zj (Zc7 (Za a.2.1 8).2).2 8))
 let x25:= !x24
 let x26:=(Za a.2.1 8).1==0||(!(Za a.2.1 8).1==1||ZgR (Za a.2.1 8).2)
 let x27:= !x26
 let x28:=(Za a.2.1 8).1==0||((Za a.2.1 8).1==1||(!(Za a.2.1 8).1==2||Nat.ble (List.length (a.2.2.1++[251])) most))
 let x29:= !x28
 let x30:List Int:=a.2.2.1++[62,u8.wrap (i64.wrap (16+(Za (Za a.2.1 8).2 16).1)),211,0,62,(Zc7 (Za (Za a.2.1 8).2 16).2).1,211,1,62,0,211,1]
 let x31:=(Za a.2.1 8).1==0||((Za a.2.1 8).1==1||((Za a.2.1 8).1==2||(!(Za a.2.1 8).1==3||(!Zj (Za a.2.1 8).2 16||(!ZgR (Za (Za a.2.1 8).2 16).2||Nat.ble (List.length x30) most)))))
 let x32:= !x31
 let x33:=(Za a.2.1 8).1==0||((Za a.2.1 8).1==1||((Za a.2.1 8).1==2||(!(Za a.2.1 8).1==3||(!Zj (Za a.2.1 8).2 16||ZgR (Za (Za a.2.1 8).2 16).2))))
 let x34:= !x33
 let x35:=(Za a.2.1 8).1==0||((Za a.2.1 8).1==1||((Za a.2.1 8).1==2||(!(Za a.2.1 8).1==3||Zj (Za a.2.1 8).2 16)))
 let x36:= !x35
 let x37:= !Zj (Za (Zan (Za a.2.1 8).2).2 64).2 4
 let x38:Int:=(Za (Za (Zan (Za a.2.1 8).2).2 64).2 4).1
 let x39:=Zf x38 (List.length [0,0,1,255])
 let x40:List Int:=a.2.2.1++[(Zan (Za a.2.1 8).2).1,u8.wrap (Za (Zan (Za a.2.1 8).2).2 64).1,R.get (R.int u8) [0,0,1,255] x38]
 let x41:=(Za a.2.1 8).1==0||((Za a.2.1 8).1==1||((Za a.2.1 8).1==2||((Za a.2.1 8).1==3||(!Zcl (Za a.2.1 8).2||(!Zj (Zan (Za a.2.1 8).2).2 64||(x37||(!x39||Nat.ble (List.length x40) most)))))))
 let x42:= !x41
 let x43:=(Za a.2.1 8).1==0||((Za a.2.1 8).1==1||((Za a.2.1 8).1==2||((Za a.2.1 8).1==3||(!Zcl (Za a.2.1 8).2||(!Zj (Zan (Za a.2.1 8).2).2 64||(x37||x39))))))
 let x44:= !x43
 let x45:=(Za a.2.1 8).1==0||((Za a.2.1 8).1==1||((Za a.2.1 8).1==2||((Za a.2.1 8).1==3||(!Zcl (Za a.2.1 8).2||(!Zj (Zan (Za a.2.1 8).2).2 64||Zj (Za (Zan (Za a.2.1 8).2).2 64).2 4)))))
 let x46:= !x45
 let x47:=(Za a.2.1 8).1==0||((Za a.2.1 8).1==1||((Za a.2.1 8).1==2||((Za a.2.1 8).1==3||(!Zcl (Za a.2.1 8).2||Zj (Zan (Za a.2.1 8).2).2 64))))
 let x48:=x10||(x12||(x14||(x16||(x18||(x20||(x23||(x25||(x27||(x29||(x32||(x34||(x36||(x42||(x44||(x46||(!x47||((Za a.2.1 8).1==0||((Za a.2.1 8).1==1||((Za a.2.1 8).1==2||((Za a.2.1 8).1==3||Zcl (Za a.2.1 8).2))))))))))))))))))))
 let x49:= !x48
 let x50:=x10||(x12||(x14||(x16||(x18||(x20||(x23||(x25||(x27||(x29||(x32||(x34||(x36||(x42||(x44||(x46||x47)))))))))))))))
 let x51:= !x50
 let x52:=x10||(x12||(x14||(x16||(x18||(x20||(x23||(x25||(x27||(x29||(x32||(x34||(x36||(x42||(x44||x45))))))))))))))
 let x53:= !x52
 let x54:=x10||(x12||(x14||(x16||(x18||(x20||(x23||(x25||(x27||(x29||(x32||(x34||(x36||(x42||x43)))))))))))))
 let x55:= !x54
 let x56:=x10||(x12||(x14||(x16||(x18||(x20||(x23||(x25||(x27||(x29||(x32||(x34||(x36||x41))))))))))))
 let x57:= !x56
 let x58:=x10||(x12||(x14||(x16||(x18||(x20||(x23||(x25||(x27||(x29||(x32||(x34||x35)))))))))))
 let x59:= !x58
 let x60:=x10||(x12||(x14||(x16||(x18||(x20||(x23||(x25||(x27||(x29||(x32||x33))))))))))
 let x61:= !x60
 let x62:=x10||(x12||(x14||(x16||(x18||(x20||(x23||(x25||(x27||(x29||x31)))))))))
 let x63:= !x62
 let x64:=x10||(x12||(x14||(x16||(x18||(x20||(x23||(x25||(x27||x28))))))))
 let x65:= !x64
 let x66:=x10||(x12||(x14||(x16||(x18||(x20||(x23||(x25||x26)))))))
 let x67:= !x66
 let x68:=x10||(x12||(x14||(x16||(x18||(x20||(x23||x24))))))
 let x69:= !x68
 let x70:=x10||(x12||(x14||(x16||(x18||(x20||x22)))))
 let x71:= !x70
 let x72:=x10||(x12||(x14||(x16||(x18||x19))))
 let x73:= !x72
 let x74:=x10||(x12||(x14||(x16||x17)))
 let x75:= !x74
 let x76:=x10||(x12||(x14||x15))
 let x77:= !x76
 let x78:=x10||(x12||x13)
 let x79:= !x78
 let x80:=x10||x11
 let x81:List Int×Int:=(Za (Za (Zan (Za a.2.1 8).2).2 64).2 4).2
 .br (decide (a.1>0)) (.br (!Zj a.2.1 8||(x49||(x51||(x53||(x55||(x57||(x59||(x61||(x63||(x65||(x67||(x69||(x71||(x73||(x75||(x77||(x79||(!x80||x9)))))))))))))))))) (.br (!Zj a.2.1 8||(x49||(x51||(x53||(x55||(x57||(x59||(x61||(x63||(x65||(x67||(x69||(x71||(x73||(x75||(x77||(x79||x80))))))))))))))))) (.br (!Zj a.2.1 8||(x49||(x51||(x53||(x55||(x57||(x59||(x61||(x63||(x65||(x67||(x69||(x71||(x73||(x75||(x77||x78)))))))))))))))) (.br (!Zj a.2.1 8||(x49||(x51||(x53||(x55||(x57||(x59||(x61||(x63||(x65||(x67||(x69||(x71||(x73||(x75||x76))))))))))))))) (.br (!Zj a.2.1 8||(x49||(x51||(x53||(x55||(x57||(x59||(x61||(x63||(x65||(x67||(x69||(x71||(x73||x74)))))))))))))) (.br (!Zj a.2.1 8||(x49||(x51||(x53||(x55||(x57||(x59||(x61||(x63||(x65||(x67||(x69||(x71||x72))))))))))))) (.br (!Zj a.2.1 8||(x49||(x51||(x53||(x55||(x57||(x59||(x61||(x63||(x65||(x67||(x69||x70)))))))))))) (.br (!Zj a.2.1 8||(x49||(x51||(x53||(x55||(x57||(x59||(x61||(x63||(x65||(x67||x68))))))))))) (.br (!Zj a.2.1 8||(x49||(x51||(x53||(x55||(x57||(x59||(x61||(x63||(x65||x66)))))))))) (.br (!Zj a.2.1 8||(x49||(x51||(x53||(x55||(x57||(x59||(x61||(x63||x64))))))))) (.br (!Zj a.2.1 8||(x49||(x51||(x53||(x55||(x57||(x59||(x61||x62)))))))) (.br (!Zj a.2.1 8||(x49||(x51||(x53||(x55||(x57||(x59||x60))))))) (.br (!Zj a.2.1 8||(x49||(x51||(x53||(x55||(x57||x58)))))) (.br (!Zj a.2.1 8||(x49||(x51||(x53||(x55||x56))))) (.br (!Zj a.2.1 8||(x49||(x51||(x53||x54)))) (.br (!Zj a.2.1 8||(x49||(x51||x52))) (.br (!Zj a.2.1 8||(x49||x50)) (.br (!Zj a.2.1 8||x48) (.br (Zj a.2.1 8) (.br ((Za a.2.1 8).1==0) (.Lf (some (Go1.cont (i64.wrap (a.1-1),x5.2,x8,PUnit.unit)))) (.br ((Za a.2.1 8).1==1) (.Lf (some (Go1.cont (i64.wrap (a.1-1),(Za (Zc7 (Za a.2.1 8).2).2 8).2,x21,PUnit.unit)))) (.br ((Za a.2.1 8).1==2) (.Lf (some (Go1.cont (i64.wrap (a.1-1),(Za a.2.1 8).2,a.2.2.1++[251],PUnit.unit)))) (.Lf (some (Go1.cont (i64.wrap (a.1-1),(bif (Za a.2.1 8).1==3 then (Zc7 (Za (Za a.2.1 8).2 16).2).2.1 else x81.1,bif (Za a.2.1 8).1==3 then (Zc7 (Za (Za a.2.1 8).2 16).2).2.2 else x81.2),bif (Za a.2.1 8).1==3 then x30 else x40,PUnit.unit))))))) (.Lf none)) (.Lf none)) (.Lf none)) (.Lf none)) (.Lf none)) (.Lf none)) (.Lf none)) (.Lf none)) (.Lf none)) (.Lf none)) (.Lf none)) (.Lf none)) (.Lf none)) (.Lf none)) (.Lf none)) (.Lf none)) (.Lf none)) (.Lf none)) (.Lf none)) (.Lf (some (Go1.brk (a.1,a.2.1,a.2.2.1,PUnit.unit))))
def ZoE:Ora:=ZbI false ZBT Zdk (λa=>400)
theorem Zur:Zbg (envX prog [(68,ZcW),(71,ZxV),(119,Zhw)] [] 9511883889056940159 8) (.block 0 (.loop (Z7 Tryz.f124.body 0))) ZoE:=
 loopP ⟨Zbf,Zl2,Zfm,Tv⟩
def ZgP (s:List Int×Int) (n:Int):RT (Option (List Int×List Int×Int)):=
 let x1:QT28:=((Za s (i64.wrap (n+1))).1,(Za s (i64.wrap (n+1))).2,[],())
 let x2:=runF false Zdk (λa=>400) x1
 let x3:(List Int×Int)×List Int×PUnit:=(getO (false,x1) x2).2.2
 .br (Zj s (i64.wrap (n+1))) (.br (okB x2) (.Lf (some ((x3.2.1,x3.1)))) (.Lf none)) (.Lf none)
def Zck (s:List Int×Int) (n:Int):List Int×List Int×Int:=getO (Zkz.Df,ZkA.Df) (ZgP s n).val
def ZgQ (s:List Int×Int) (n:Int):Bool:=okB (ZgP s n).val
def ZoF:En:=boxE ZkA Zq3 Zkz (λa=>some (ZgQ a.1 a.2)) (λa=>Zck a.1 a.2)
theorem ZoD:Zb prog 124 ZoF:=
 ZcJ (P:=prog) (n:=9511883889056940159) (k:=8) (l:=[(68,ZcW),(71,ZxV),(119,Zhw)]) (ol:=[(0,ZoE)]) ⟨Zbf,Zl2,Zfm,Tv⟩ Tryz.func124 rfl (by kernel_rfl) Tryz.call124 ⟨Zur,Tv⟩ (rb:=ZkA) (ts:=Zq3) (rs:=Zkz) (t:=λa=>ZgP a.1 a.2) (λa=>by kernel_rfl)
abbrev Zuv:R:=R.Pq (R.sl (R.int i64)) (R.int i64)
abbrev ZE5:List Sh:=[]
abbrev Zuu:Rs:=Rs.one (Sh.agg (R.Pq (R.int i64) (R.Pq rcRG (R.Pq (R.int i64) (R.Pq (R.int u8) (R.Pq (R.int u8) (R.Pq R.bool rcCE)))))))
def ZNp:LS:={n:=50,Sl:=[(0,.fix (A.loc 0 0)),(2,.fix (A.loc 1 0)),(3,.fix (A.loc 2 0)),(4,.tip 0),(5,.code (Sh.one (R.int i64)))],Bx:=[[.many (R.Pq (R.sl (R.int i64)) (R.int i64))],[.many (R.Pq (R.int i64) (R.Pq rcRG (R.Pq (R.int i64) (R.Pq (R.int u8) (R.Pq (R.int u8) (R.Pq R.bool rcCE))))))],[.many (R.Pq (R.int i64) (R.Pq rcRG (R.Pq (R.int i64) (R.Pq (R.int u8) (R.Pq (R.int u8) (R.Pq R.bool rcCE))))))]],Sg:=[⟨R.Pq (R.int u16) (R.int u8),75,true⟩]}
def Zfo (a:QT19):RT (Option (Go1 (QT19))):=
 let x1:=Zf (Za a.2.1 6).1 (List.length [36,60,52,44,56,32])
 let x2:= !x1
 let x3:List Int:=[(Zan (Za a.2.1 6).2).1,251,201]
 let x4:=smB x3
 let x5:List (Int×Int):=a.2.2.2.2.1++Stg.l (newG Zhp Zhq (ZpV (u16.wrap (R.get (R.int i64) [36,60,52,44,56,32] (Za a.2.1 6).1)) x3))
 let x6:= !Zj a.2.1 6||(x2||(!Zcl (Za a.2.1 6).2||(!x4||Nat.ble (List.length x5) most)))
 let x7:= !x6
 let x8:= !Zj a.2.1 6||(x2||(!Zcl (Za a.2.1 6).2||x4))
 let x9:= !x8
 let x10:= !Zj a.2.1 6||(x2||Zcl (Za a.2.1 6).2)
 let x11:= !x10
 let x12:= !Zj a.2.1 6||x1
 .br (decide (a.1>0)) (.br (x7||(x9||(x11||(!x12||Zj a.2.1 6)))) (.br (x7||(x9||(x11||x12))) (.br (x7||(x9||x10)) (.br (x7||x8) (.br (x6) (.Lf (some (Go1.cont (i64.wrap (a.1-1),(Zan (Za a.2.1 6).2).2,a.2.2.1,a.2.2.2.1,x5,PUnit.unit)))) (.Lf none)) (.Lf none)) (.Lf none)) (.Lf none)) (.Lf none)) (.Lf (some (Go1.brk (a.1,a.2.1,a.2.2.1,a.2.2.2.1,a.2.2.2.2.1,PUnit.unit))))
def ZxX:Ora:=ZbI false ZNp Zfo (λa=>400)
theorem ZB4:Zbg (envX prog [(59,Zsw),(68,ZcW),(71,ZxV),(93,ZzP),(119,Zhw),(122,ZNm),(123,ZVs),(124,ZoF)] [] 63 8) (.block 0 (.loop (Z7 Tryz.f66.body 0))) ZxX:=
 loopP ⟨Zqz,Zbf,Zl2,Zwc,Zfm,ZE4,ZNg,ZoD,Tv⟩
def ZoQ (s:List Int×Int):RT (Option (BRDT×List Int×Int)):=
 let x1:=(Za (Za (Za (nMap (Za4 s).2).2 3).2 4).2 6).1==0
 let x2:= !x1
 let x3:List Int×Int:=(Za (Za (Za (nMap (Za4 s).2).2 3).2 4).2 6).2
 let x4:=ZgR x3
 let x5:=Zc7 x3
 let x6:=x5.2
 let x7:=Zc7 x6
 let x8:=x7.2
 let x9:List Int×Int:=(bif x1 then x8.1 else x3.1,bif x1 then x8.2 else x3.2)
 let x10:=ZgQ x9 12
 let x11:=Zck x9 12
 let x12:=x11.1
 let x13:=x11.2
 let x14:=Za x13 4
 let x15:QT19:=(x14.1,x14.2,(0,[],0,0,0,false,[]),((Za4 s).1,(nMap (Za4 s).2).1,(Za (nMap (Za4 s).2).2 3).1,bif x1 then x5.1 else 0,bif x1 then x7.1 else 4,(Za (Za (nMap (Za4 s).2).2 3).2 4).1==0,[]),Stg.l (newG Zhp Zhq (ZpV 0 x12)),())
 let x16:=runF false Zfo (λa=>400) x15
 let x17:(List Int×Int)×BRDT×BRDT×List (Int×Int)×PUnit:=(getO (false,x15) x16).2.2
 let x18:=x17.2.2
 let x19:=x18.2.1
 let x20:=x18.1
 let x21:=x20.2
 let x22:=x21.2
 let x23:=x22.2
 let x24:=x23.2
 .br (!ZoO s||(!ZHL (Za4 s).2||(!Zj (nMap (Za4 s).2).2 3||Zj (Za (nMap (Za4 s).2).2 3).2 4))) (.br (!ZoO s||(!ZHL (Za4 s).2||Zj (nMap (Za4 s).2).2 3)) (.br (!ZoO s||ZHL (Za4 s).2) (.br (ZoO s) (.br (Zj (Za (Za (nMap (Za4 s).2).2 3).2 4).2 6) (.br (x2||(!x4||ZgR x6)) (.br (x2||x4) (.br (!x10||smB x12) (.br (x10) (.br (Zj x13 4) (.br (okB x16) (.br (smC x19) (.Lf (some (((x20.1,x21.1,x22.1,x23.1,x24.1,x24.2.1,Cells.normX x19),x17.1)))) (.Lf none)) (.Lf none)) (.Lf none)) (.Lf none)) (.Lf none)) (.Lf none)) (.Lf none)) (.Lf none)) (.Lf none)) (.Lf none)) (.Lf none)) (.Lf none)
def ZcA (s:List Int×Int):BRDT×List Int×Int:=getO (Zuu.Df,Zuv.Df) (ZoQ s).val
def ZoR (s:List Int×Int):Bool:=okB (ZoQ s).val
def ZNq:En:=boxE Zuv ZE5 Zuu (λa=>some (ZoR a.1)) (λa=>ZcA a.1)
theorem ZNo:Zb prog 66 ZNq:=
 ZcJ (P:=prog) (n:=63) (k:=8) (l:=[(59,Zsw),(68,ZcW),(71,ZxV),(93,ZzP),(119,Zhw),(122,ZNm),(123,ZVs),(124,ZoF)]) (ol:=[(0,ZxX)]) ⟨Zqz,Zbf,Zl2,Zwc,Zfm,ZE4,ZNg,ZoD,Tv⟩ Tryz.func66 rfl (by kernel_rfl) Tryz.call66 ⟨ZB4,Tv⟩ (rb:=Zuv) (ts:=ZE5) (rs:=Zuu) (t:=λa=>ZoQ a.1) (λa=>by kernel_rfl)
abbrev Zut:R:=R.Pq (R.sl (R.int i64)) (R.int i64)
abbrev ZE2:List Sh:=[]
abbrev Zus:Rs:=Rs.one (Sh.agg Zbt)
def ZoM (s:List Int×Int):RT (Option (INPT×List Int×Int)):=
 let x1:=decide ((Za s 64).1<30)||(decide ((Za s 64).1<36)||(decide ((Za s 64).1<40)||(!decide ((Za s 64).1<46)||Zj (Za s 64).2 256)))
 let x2:= !x1
 let x3:=decide ((Za s 64).1<30)||(decide ((Za s 64).1<36)||(decide ((Za s 64).1<40)||(decide ((Za s 64).1<46)||(decide ((Za s 64).1<50)||(decide ((Za s 64).1<53)||(decide ((Za s 64).1<55)||((Za s 64).1==55||(!decide ((Za s 64).1<60)||Zcl (Za s 64).2))))))))
 let x4:= !x3
 let x5:= !Zbw (Zai (Zai (Zai (Zai (Za s 64).2).2).2).2).2
 let x6:List Int×Int:=(Zai (Zai (Zai (Zai (Zai (Za s 64).2).2).2).2).2).2
 let x7:=Zj x6 256
 let x8:=Za x6 256
 let x9:=x8.2
 let x10:=decide ((Za s 64).1<30)||(decide ((Za s 64).1<36)||(decide ((Za s 64).1<40)||(decide ((Za s 64).1<46)||(decide ((Za s 64).1<50)||(decide ((Za s 64).1<53)||(decide ((Za s 64).1<55)||((Za s 64).1==55||(decide ((Za s 64).1<60)||(!Zbw (Za s 64).2||(!Zbw (Zai (Za s 64).2).2||(!Zbw (Zai (Zai (Za s 64).2).2).2||(!Zbw (Zai (Zai (Zai (Za s 64).2).2).2).2||(x5||(!x7||Zj x9 256))))))))))))))
 let x11:= !x10
 let x12:=decide ((Za s 64).1<30)||(decide ((Za s 64).1<36)||(decide ((Za s 64).1<40)||(decide ((Za s 64).1<46)||(decide ((Za s 64).1<50)||(decide ((Za s 64).1<53)||(decide ((Za s 64).1<55)||((Za s 64).1==55||(decide ((Za s 64).1<60)||(!Zbw (Za s 64).2||(!Zbw (Zai (Za s 64).2).2||(!Zbw (Zai (Zai (Za s 64).2).2).2||(!Zbw (Zai (Zai (Zai (Za s 64).2).2).2).2||(x5||x7)))))))))))))
 let x13:= !x12
 let x14:=decide ((Za s 64).1<30)||(decide ((Za s 64).1<36)||(decide ((Za s 64).1<40)||(decide ((Za s 64).1<46)||(decide ((Za s 64).1<50)||(decide ((Za s 64).1<53)||(decide ((Za s 64).1<55)||((Za s 64).1==55||(decide ((Za s 64).1<60)||(!Zbw (Za s 64).2||(!Zbw (Zai (Za s 64).2).2||(!Zbw (Zai (Zai (Za s 64).2).2).2||(!Zbw (Zai (Zai (Zai (Za s 64).2).2).2).2||Zbw (Zai (Zai (Zai (Zai (Za s 64).2).2).2).2).2))))))))))))
 let x15:= !x14
 let x16:=decide ((Za s 64).1<30)||(decide ((Za s 64).1<36)||(decide ((Za s 64).1<40)||(decide ((Za s 64).1<46)||(decide ((Za s 64).1<50)||(decide ((Za s 64).1<53)||(decide ((Za s 64).1<55)||((Za s 64).1==55||(decide ((Za s 64).1<60)||(!Zbw (Za s 64).2||(!Zbw (Zai (Za s 64).2).2||(!Zbw (Zai (Zai (Za s 64).2).2).2||Zbw (Zai (Zai (Zai (Za s 64).2).2).2).2)))))))))))
 let x17:= !x16
 let x18:=decide ((Za s 64).1<30)||(decide ((Za s 64).1<36)||(decide ((Za s 64).1<40)||(decide ((Za s 64).1<46)||(decide ((Za s 64).1<50)||(decide ((Za s 64).1<53)||(decide ((Za s 64).1<55)||((Za s 64).1==55||(decide ((Za s 64).1<60)||(!Zbw (Za s 64).2||(!Zbw (Zai (Za s 64).2).2||Zbw (Zai (Zai (Za s 64).2).2).2))))))))))
 let x19:= !x18
 let x20:=decide ((Za s 64).1<30)||(decide ((Za s 64).1<36)||(decide ((Za s 64).1<40)||(decide ((Za s 64).1<46)||(decide ((Za s 64).1<50)||(decide ((Za s 64).1<53)||(decide ((Za s 64).1<55)||((Za s 64).1==55||(decide ((Za s 64).1<60)||(!Zbw (Za s 64).2||Zbw (Zai (Za s 64).2).2)))))))))
 let x21:=Za x9 256
 let x22:=x21.2
 .br (Zj s 64) (.br (x2||(x4||(x11||(x13||(x15||(x17||(x19||(!x20||(decide ((Za s 64).1<30)||(decide ((Za s 64).1<36)||(decide ((Za s 64).1<40)||(decide ((Za s 64).1<46)||(decide ((Za s 64).1<50)||(decide ((Za s 64).1<53)||(decide ((Za s 64).1<55)||((Za s 64).1==55||(decide ((Za s 64).1<60)||Zbw (Za s 64).2))))))))))))))))) (.br (x2||(x4||(x11||(x13||(x15||(x17||(x19||x20))))))) (.br (x2||(x4||(x11||(x13||(x15||(x17||x18)))))) (.br (x2||(x4||(x11||(x13||(x15||x16))))) (.br (x2||(x4||(x11||(x13||x14)))) (.br (x2||(x4||(x11||x12))) (.br (x2||(x4||x10)) (.br (x2||x3) (.br (x1) (.Lf (some (((bif decide ((Za s 64).1<30) then ZI.1 else !decide ((Za s 64).1<36)&&bif decide ((Za s 64).1<40) then ZI.1 else bif decide ((Za s 64).1<46) then ZI.1 else bif decide ((Za s 64).1<50) then ZI.1 else bif decide ((Za s 64).1<53) then ZI.1 else bif decide ((Za s 64).1<55) then ZI.1 else bif (Za s 64).1==55 then ZI.1 else bif decide ((Za s 64).1<60) then ZI.1 else (Zai (Za s 64).2).1,bif decide ((Za s 64).1<30) then ZI.2.1 else bif decide ((Za s 64).1<36) then ZI.2.1 else decide ((Za s 64).1<40)||bif decide ((Za s 64).1<46) then ZI.2.1 else bif decide ((Za s 64).1<50) then ZI.2.1 else bif decide ((Za s 64).1<53) then ZI.2.1 else bif decide ((Za s 64).1<55) then ZI.2.1 else bif (Za s 64).1==55 then ZI.2.1 else bif decide ((Za s 64).1<60) then ZI.2.1 else (Zai (Zai (Za s 64).2).2).1,bif decide ((Za s 64).1<30) then ZI.2.2.1 else bif decide ((Za s 64).1<36) then ZI.2.2.1 else bif decide ((Za s 64).1<40) then ZI.2.2.1 else bif decide ((Za s 64).1<46) then ZI.2.2.1 else bif decide ((Za s 64).1<50) then ZI.2.2.1 else bif decide ((Za s 64).1<53) then ZI.2.2.1 else bif decide ((Za s 64).1<55) then ZI.2.2.1 else (Za s 64).1==55||decide ((Za s 64).1<60)&&ZI.2.2.1,bif decide ((Za s 64).1<30) then ZI.2.2.2.1 else bif decide ((Za s 64).1<36) then ZI.2.2.2.1 else bif decide ((Za s 64).1<40) then ZI.2.2.2.1 else bif decide ((Za s 64).1<46) then ZI.2.2.2.1 else bif decide ((Za s 64).1<50) then ZI.2.2.2.1 else bif decide ((Za s 64).1<53) then (Za s 64).1==51 else bif decide ((Za s 64).1<55) then ZI.2.2.2.1 else bif (Za s 64).1==55 then ZI.2.2.2.1 else bif decide ((Za s 64).1<60) then ZI.2.2.2.1 else (Zai (Zai (Zai (Za s 64).2).2).2).1,bif decide ((Za s 64).1<30) then ZI.2.2.2.2.1 else bif decide ((Za s 64).1<36) then ZI.2.2.2.2.1 else bif decide ((Za s 64).1<40) then ZI.2.2.2.2.1 else bif decide ((Za s 64).1<46) then ZI.2.2.2.2.1 else bif decide ((Za s 64).1<50) then ZI.2.2.2.2.1 else bif decide ((Za s 64).1<53) then ZI.2.2.2.2.1 else decide ((Za s 64).1<55)||bif (Za s 64).1==55 then ZI.2.2.2.2.1 else decide ((Za s 64).1<60)&&ZI.2.2.2.2.1,bif decide ((Za s 64).1<30) then ZI.2.2.2.2.2.1 else bif decide ((Za s 64).1<36) then ZI.2.2.2.2.2.1 else bif decide ((Za s 64).1<40) then ZI.2.2.2.2.2.1 else bif decide ((Za s 64).1<46) then ZI.2.2.2.2.2.1 else bif decide ((Za s 64).1<50) then Int.tmod (Za s 64).1 2==0 else bif decide ((Za s 64).1<53) then ZI.2.2.2.2.2.1 else bif decide ((Za s 64).1<55) then ZI.2.2.2.2.2.1 else bif (Za s 64).1==55 then ZI.2.2.2.2.2.1 else bif decide ((Za s 64).1<60) then ZI.2.2.2.2.2.1 else (Zai (Zai (Zai (Zai (Za s 64).2).2).2).2).1,bif decide ((Za s 64).1<30) then ZI.2.2.2.2.2.2.1 else bif decide ((Za s 64).1<36) then ZI.2.2.2.2.2.2.1 else bif decide ((Za s 64).1<40) then ZI.2.2.2.2.2.2.1 else bif decide ((Za s 64).1<46) then ZI.2.2.2.2.2.2.1 else bif decide ((Za s 64).1<50) then Int.tmod (Za s 64).1 2==1 else bif decide ((Za s 64).1<53) then ZI.2.2.2.2.2.2.1 else bif decide ((Za s 64).1<55) then ZI.2.2.2.2.2.2.1 else bif (Za s 64).1==55 then ZI.2.2.2.2.2.2.1 else bif decide ((Za s 64).1<60) then ZI.2.2.2.2.2.2.1 else (Zai (Zai (Zai (Zai (Zai (Za s 64).2).2).2).2).2).1,bif decide ((Za s 64).1<30) then ZI.2.2.2.2.2.2.2.1 else bif decide ((Za s 64).1<36) then ZI.2.2.2.2.2.2.2.1 else bif decide ((Za s 64).1<40) then ZI.2.2.2.2.2.2.2.1 else bif decide ((Za s 64).1<46) then ZI.2.2.2.2.2.2.2.1 else bif decide ((Za s 64).1<50) then ZI.2.2.2.2.2.2.2.1 else decide ((Za s 64).1<53)||bif decide ((Za s 64).1<55) then ZI.2.2.2.2.2.2.2.1 else bif (Za s 64).1==55 then ZI.2.2.2.2.2.2.2.1 else decide ((Za s 64).1<60)&&ZI.2.2.2.2.2.2.2.1,bif decide ((Za s 64).1<30) then ZI.2.2.2.2.2.2.2.2.1 else bif decide ((Za s 64).1<36) then ZI.2.2.2.2.2.2.2.2.1 else bif decide ((Za s 64).1<40) then ZI.2.2.2.2.2.2.2.2.1 else bif decide ((Za s 64).1<46) then u8.wrap (Za (Za s 64).2 256).1 else bif decide ((Za s 64).1<50) then ZI.2.2.2.2.2.2.2.2.1 else bif decide ((Za s 64).1<53) then ZI.2.2.2.2.2.2.2.2.1 else bif decide ((Za s 64).1<55) then ZI.2.2.2.2.2.2.2.2.1 else bif (Za s 64).1==55 then ZI.2.2.2.2.2.2.2.2.1 else bif decide ((Za s 64).1<60) then 1 else u8.wrap x8.1,bif decide ((Za s 64).1<30) then u8.wrap (Za s 64).1 else bif decide ((Za s 64).1<36) then ZI.2.2.2.2.2.2.2.2.2 else bif decide ((Za s 64).1<40) then ZI.2.2.2.2.2.2.2.2.2 else bif decide ((Za s 64).1<46) then ZI.2.2.2.2.2.2.2.2.2 else bif decide ((Za s 64).1<50) then ZI.2.2.2.2.2.2.2.2.2 else bif decide ((Za s 64).1<53) then ZI.2.2.2.2.2.2.2.2.2 else bif decide ((Za s 64).1<55) then ZI.2.2.2.2.2.2.2.2.2 else bif (Za s 64).1==55 then ZI.2.2.2.2.2.2.2.2.2 else bif decide ((Za s 64).1<60) then (Zan (Za s 64).2).1 else u8.wrap x21.1),bif decide ((Za s 64).1<30) then (Za s 64).2.1 else bif decide ((Za s 64).1<36) then (Za s 64).2.1 else bif decide ((Za s 64).1<40) then (Za s 64).2.1 else bif decide ((Za s 64).1<46) then (Za (Za s 64).2 256).2.1 else bif decide ((Za s 64).1<50) then (Za s 64).2.1 else bif decide ((Za s 64).1<53) then (Za s 64).2.1 else bif decide ((Za s 64).1<55) then (Za s 64).2.1 else bif (Za s 64).1==55 then (Za s 64).2.1 else bif decide ((Za s 64).1<60) then (Zan (Za s 64).2).2.1 else x22.1,bif decide ((Za s 64).1<30) then (Za s 64).2.2 else bif decide ((Za s 64).1<36) then (Za s 64).2.2 else bif decide ((Za s 64).1<40) then (Za s 64).2.2 else bif decide ((Za s 64).1<46) then (Za (Za s 64).2 256).2.2 else bif decide ((Za s 64).1<50) then (Za s 64).2.2 else bif decide ((Za s 64).1<53) then (Za s 64).2.2 else bif decide ((Za s 64).1<55) then (Za s 64).2.2 else bif (Za s 64).1==55 then (Za s 64).2.2 else bif decide ((Za s 64).1<60) then (Zan (Za s 64).2).2.2 else x22.2)))) (.Lf none)) (.Lf none)) (.Lf none)) (.Lf none)) (.Lf none)) (.Lf none)) (.Lf none)) (.Lf none)) (.Lf none)) (.Lf none)
def ZdL (s:List Int×Int):INPT×List Int×Int:=getO (Zus.Df,Zut.Df) (ZoM s).val
def Zij (s:List Int×Int):Bool:=okB (ZoM s).val
def ZoN:En:=boxE Zut ZE2 Zus (λa=>some (Zij a.1)) (λa=>ZdL a.1)
theorem ZoL:Zb prog 62 ZoN:=
 ZcJ (P:=prog) (n:=5036105318265824215071) (k:=8) (l:=[(68,ZcW),(69,ZSU),(118,ZCK),(119,Zhw)]) (ol:=[]) ⟨Zbf,ZQ8,ZrC,Zfm,Tv⟩ Tryz.func62 rfl (by kernel_rfl) Tryz.call62 trivial (rb:=Zut) (ts:=ZE2) (rs:=Zus) (t:=λa=>ZoM a.1) (λa=>by kernel_rfl)
abbrev ZoK:R:=R.Pq (R.sl (R.int i64)) (R.int i64)
abbrev ZxS:List Sh:=[Sh.one (R.int i64)]
abbrev ZoJ:Rs:=Rs.one (Sh.one (R.sl Zbt))
def ZHP:LS:={n:=39,Sl:=[(0,.fix (A.loc 0 0)),(5,.tip 0),(6,.code (Sh.one (R.int i64))),(7,.fix (A.loc 1 0)),(8,.code (Sh.one (R.int i64)))],Bx:=[[.many (R.Pq (R.sl (R.int i64)) (R.int i64))],[.many Zbt]],Sg:=[⟨Zbt,122,true⟩]}
def Zd5 (a:QT18):RT (Option (Go1 (QT18))):=
 let x1:List INPT:=a.2.2.2.2.1++[a.2.2.2.1]
 .br (decide (a.2.1>=0)&&decide (iN (List.length a.2.2.2.2.1)<a.1)) (.br (Nat.ble (List.length x1) most) (.Lf (some (Go1.cont (a.1,i64.wrap (a.2.1-1),a.2.2.1,a.2.2.2.1,x1,PUnit.unit)))) (.Lf none)) (.Lf (some (Go1.brk (a.1,a.2.1,a.2.2.1,a.2.2.2.1,a.2.2.2.2.1,PUnit.unit))))
def Zhx:Ora:=ZbI false ZHP Zd5 (λa=>400)
theorem Zla:Zbg (envX prog [(62,ZoN),(68,ZcW)] [] 511 8) (.block 2 (.loop (Z7 Tryz.f125.body 2))) Zhx:=
 loopP ⟨ZoL,Zbf,Tv⟩
def ZHO:LS:={n:=39,Sl:=[(0,.fix (A.loc 0 0)),(5,.tip 0),(6,.code (Sh.one (R.int i64)))],Bx:=[[.many (R.Pq (R.sl (R.int i64)) (R.int i64))]],Sg:=[⟨Zbt,122,true⟩]}
def Zfn (a:QT27):RT (Option (Go1 (QT27))):=
 let x1:= !Zj (ZdL a.2.1).2 4||Zj (Za (ZdL a.2.1).2 4).2 5
 let x2:= !x1
 let x3:QT18:=(a.1,i64.wrap ((Za (ZdL a.2.1).2 4).1*(Za (Za (ZdL a.2.1).2 4).2 5).1),(Za (Za (ZdL a.2.1).2 4).2 5).2,(ZdL a.2.1).1,a.2.2.1,())
 let x4:=runF false Zd5 (λa_1=>400) x3
 let x5:QT18:=(getO (false,x3) x4).2
 let x6:=x5.2.2
 .br (decide (iN (List.length a.2.2.1)<a.1)) (.br (!Zij a.2.1||(x2||(!Zj (ZdL a.2.1).2 4||okB x4))) (.br (!Zij a.2.1||(x2||Zj (ZdL a.2.1).2 4)) (.br (!Zij a.2.1||x1) (.br (Zij a.2.1) (.Lf (some (Go1.cont (x5.1,x6.1,x6.2.2.1,PUnit.unit)))) (.Lf none)) (.Lf none)) (.Lf none)) (.Lf none)) (.Lf (some (Go1.brk (a.1,a.2.1,a.2.2.1,PUnit.unit))))
def Zq4:Ora:=ZbI false ZHO Zfn (λa=>400)
theorem ZxT:Zbg (envX prog [(62,ZoN),(68,ZcW)] [(2,Zhx)] 511 8) (.block 0 (.loop (Z7 Tryz.f125.body 0))) Zq4:=
 Zju (ZbT (l:=[(62,ZoN),(68,ZcW)]) ⟨ZoL,Zbf,Tv⟩ [(2,Zhx)] 511 8) (Zil (by kernel_rfl) (by kernel_rfl) ⟨Zla,Tv⟩) (λa=>by kernel_rfl)
def Zjm (s:List Int×Int) (n:Int):RT (Option (List INPT×List Int×Int)):=
 let x1:QT27:=((Za s (i64.wrap (n+1))).1,(Za s (i64.wrap (n+1))).2,[],())
 let x2:=runF false Zfn (λa=>400) x1
 let x3:(List Int×Int)×List INPT×PUnit:=(getO (false,x1) x2).2.2
 .br (Zj s (i64.wrap (n+1))) (.br (okB x2) (.Lf (some ((x3.2.1,x3.1)))) (.Lf none)) (.Lf none)
def Zab (s:List Int×Int) (n:Int):List INPT×List Int×Int:=getO (ZoJ.Df,ZoK.Df) (Zjm s n).val
def Zjn (s:List Int×Int) (n:Int):Bool:=okB (Zjm s n).val
def ZE1:En:=boxE ZoK ZxS ZoJ (λa=>some (Zjn a.1 a.2)) (λa=>Zab a.1 a.2)
theorem ZHM:Zb prog 125 ZE1:=
 ZcJ (P:=prog) (n:=511) (k:=8) (l:=[(62,ZoN),(68,ZcW)]) (ol:=[(2,Zhx),(0,Zq4)]) ⟨ZoL,Zbf,Tv⟩ Tryz.func125 rfl (by kernel_rfl) Tryz.call125 ⟨Zla,ZxT,Tv⟩ (rb:=ZoK) (ts:=ZxS) (rs:=ZoJ) (t:=λa=>Zjm a.1 a.2) (λa=>by kernel_rfl)
variable {s:List Int×Int} {k:Int}
theorem NB.up {j:Int} (h:NB s k) (hj:k<=j):NB s j:=⟨h.1,by have:=h.2;omega⟩
theorem Zjo (h:NB s k) (hk:k<=1000000):Zbw s=true/\NB (Zai s).2 (k+1):=by obtain⟨c1,b,_⟩:=Zq h hk 2 (by decide) (by decide);simp only[Zbw,Zai,ZE3,RT.val,c1,Ya,okB,getO];exact⟨trivial,b⟩
theorem ZV {a b:Nat} (h:a<=b):Nat.ble a b=true:=by rw[YB];exact h
theorem ZBQ (h:NB s k) (hk:k<=500000) (n:Nat) (hn:n<=100):
  Zb7 s (n:Int)=true/\NB (ZQ s (n:Int)).2 (k+1+5*n)/\(ZQ s (n:Int)).1.length<=n:=by
 have hms:=mst;have w0:IntKind.wrap .i64 ((n:Int)+1)=(n:Int)+1:=wrap_i64 _ (by omega) (by omega);obtain⟨c1,b1,d0,d1⟩:=Zq h (by omega) ((n:Int)+1) (by omega) (by omega);obtain⟨L,N,hs1⟩:∃L N,(L,N)=(Za s ((n:Int)+1)).2:=⟨_,_,rfl⟩;obtain⟨q,hq⟩:∃q:Nat,(Za s ((n:Int)+1)).1=(q:Int):=⟨_,(Yam d0).symm⟩;rw[<-hs1] at b1;obtain⟨r,hr,h1,L',N',o,hs',ho,hR⟩:=ZC (fl:=false) (t:=Zb6) (fuel:=λa=>400)
  (λa=>∃(i:Nat) (L:List Int) (N:Int) (o:List ZO),i<=q/\NB (L,N) (k+1+5*((q-i:Nat):Int))/\o.length<=q-i/\a=((i:Int),(L,N),o,()))
  (λa=>Int.toNat a.1) (λr=>r.1=false/\∃(L:List Int) (N:Int) (o:List ZO),NB (L,N) (k+1+5*(q:Int))/\o.length<=q/\r.2=((0:Int),(L,N),o,()))
  (by
   rintro a ⟨i,L,N,o,hi,hs',ho,rfl⟩;cases i with
   |zero=>
    right;left;exact⟨_,by simp only[Zb6,RT.val];rfl,rfl,L,N,o,by simpa using hs',by omega,rfl⟩
   |succ i=>
    left;have d:decide (((i+1:Nat):Int)>0)=true:=YA (by omega);obtain⟨kw,bw,_⟩:=ZEZ hs' (by omega);obtain⟨k1,b1,e0,e1⟩:=Zq bw (by omega) 6 (by decide) (by decide);obtain⟨k2,b2,_⟩:=Zq b1 (by omega) 3 (by decide) (by decide);obtain⟨k3,b3,f0,f1⟩:=Zq b2 (by omega) 5 (by decide) (by decide);have r1:Zf (Za (ZaW (L,N)).2 6).1 6=true:=Zx.2 ⟨e0,e1⟩;have r2:Zf (Za (Za (Za (ZaW (L,N)).2 6).2 3).2 5).1 5=true:=Zx.2 ⟨f0,f1⟩;have hb:∀x:ZO,Nat.ble (o++[x]).length most=true:=λx=>ZV (by simp;omega)
    have w:IntKind.wrap .i64 (((i+1:Nat):Int)-1)=(i:Int):=by rw[wrap_i64 _ (by omega) (by omega)];omega
    obtain⟨o',ho'⟩:∃o':List ZO,o'=o++[((ZaW (L,N)).1,u16.wrap (if 65535<i64.wrap (i64.wrap (ZaW (L,N)).1+R.get (R.int i64) [0,3,15,255,4095,65535] (Za (ZaW (L,N)).2 6).1) then 65535 else i64.wrap (i64.wrap (ZaW (L,N)).1+R.get (R.int i64) [0,3,15,255,4095,65535] (Za (ZaW (L,N)).2 6).1)),decide ((Za (Za (ZaW (L,N)).2 6).2 3).1>0),R.get (R.int i64) [0,0,1,2,5] (Za (Za (Za (ZaW (L,N)).2 6).2 3).2 5).1)]:=⟨_,rfl⟩;refine⟨((i:Int),((Za (Za (Za (ZaW (L,N)).2 6).2 3).2 5).2.1,(Za (Za (Za (ZaW (L,N)).2 6).2 3).2 5).2.2),o',()),?_,⟨i,_,_,o',by omega,b3.up (by omega),by rw[ho'];simp;omega,rfl⟩,by simp only;omega⟩
    simp only[Zb6,RT.val,List.length_cons,List.length_nil,Nat.reduceAdd,d,kw,k1,k2,k3,r1,r2,hb,w,ho',Ya,Yf,Yi,Yh,Yt])
  ((q:Int),(L,N),[],()) ⟨q,L,N,[],Ye _,by simpa using b1,by simp,rfl⟩ (by simp only;omega)
 obtain⟨r1,r2⟩:=r;simp only at h1 hR;subst h1 hR;have hv:(Zer s (n:Int)).val=some (o,L',N'):=by simp only[Zer,RT.val,w0,c1,hq,<-hs1,hr,okB,getO,Ya]
 simp only[Zb7,ZQ,hv,okB,getO];exact⟨trivial,hs'.up (by omega),by omega⟩
theorem ZWy {l:List Cell} (h:l.length<=1000):smC l=true:=ZV (by have:=mst;omega)
theorem ZSh {l:List Int} (h:l.length<=1000):smB l=true:=ZV (by have:=mst;omega)
theorem ZBW (h:NB s k) (hk:k<=400000):ZHL s=true/\NB (nMap s).2 (k+20)/\(nMap s).1.length<=3:=by
 obtain⟨c1,b1,l1⟩:=ZBQ h (by omega) 2 (by omega);have c1:Zb7 s 2=true:=c1;have b1:NB (ZQ s 2).2 (k+1+5*((2:Nat):Int)):=b1;have l1:(ZQ s 2).1.length<=2:=l1;obtain⟨c2,b2,_⟩:=Zq b1 (by omega) 3 (by decide) (by decide);have hs:∀x:ZO,Nat.ble ((ZQ s 2).1++[x]).length most=true:=λx=>ZV (by have:=mst;simp;omega)
 have hg:∀l:List ZO,Stg.l (newG Zd3 Zd4 l)=l:=λ_=>rfl
 have hv:(ZBX s).val=some ((ZQ s 2).1++[(0,65535,true,IntKind.wrap .i64 (Int.tdiv (Za (ZQ s 2).2 3).1 2))],(Za (ZQ s 2).2 3).2):=by simp only[ZBX,RT.val,hg,c1,c2,hs,Yf,Yi,Yh,Ya]
 refine⟨by simp only[ZHL,hv];rfl,?_,?_⟩
 ·simp only[nMap,hv,getO];exact b2.up (by omega)
 ·simp only[nMap,hv,getO];simp;omega
theorem ZBS (h:NB s k) (hk:k<=300000) (n:Nat) (hn:n<=20):
  ZgQ s (n:Int)=true/\NB (Zck s (n:Int)).2 (k+1+10*n)/\(Zck s (n:Int)).1.length<=12*n:=by
 have hms:=mst;have w0:IntKind.wrap .i64 ((n:Int)+1)=(n:Int)+1:=wrap_i64 _ (by omega) (by omega);obtain⟨c1,b1,d0,d1⟩:=Zq h (by omega) ((n:Int)+1) (by omega) (by omega);obtain⟨s1,hs1⟩:∃s1,s1=(Za s ((n:Int)+1)).2:=⟨_,rfl⟩;obtain⟨q,hq⟩:∃q:Nat,(Za s ((n:Int)+1)).1=(q:Int):=⟨_,(Yam d0).symm⟩;rw[<-hs1] at b1;obtain⟨r,hr,h1,s',o,hs',ho,hR⟩:=ZC (fl:=false) (t:=Zdk) (fuel:=λa=>400)
  (λa=>∃(i:Nat) (s':List Int×Int) (o:List Int),i<=q/\NB s' (k+1+10*((q-i:Nat):Int))/\o.length<=12*(q-i)/\a=((i:Int),s',o,()))
  (λa=>Int.toNat a.1) (λr=>r.1=false/\∃(s':List Int×Int) (o:List Int),NB s' (k+1+10*(q:Int))/\o.length<=12*q/\r.2=((0:Int),s',o,()))
  (by
   rintro a ⟨i,s',o,hi,hs',ho,rfl⟩;cases i with
   |zero=>
    right;left;exact⟨_,by simp only[Zdk,RT.val];rfl,rfl,s',o,by simpa using hs',by omega,rfl⟩
   |succ i=>
    left;have d:decide (((i+1:Nat):Int)>0)=true:=YA (by omega);have w:IntKind.wrap .i64 (((i+1:Nat):Int)-1)=(i:Int):=by rw[wrap_i64 _ (by omega) (by omega)];omega
    obtain⟨k0,b0,_⟩:=Zq hs' (by omega) 8 (by decide) (by decide);obtain⟨k1,b1,e0,e1⟩:=Zq b0 (by omega) 4 (by decide) (by decide);obtain⟨k2,b2,_⟩:=Zq b1 (by omega) 256 (by decide) (by decide);obtain⟨k3,b3,f0,f1⟩:=Zq b2 (by omega) 4 (by decide) (by decide);obtain⟨k4,b4,_⟩:=Zl3 b0 (by omega);obtain⟨k5,b5,_⟩:=Zq b4 (by omega) 8 (by decide) (by decide);obtain⟨k6,b6,_⟩:=Zq b0 (by omega) 16 (by decide) (by decide);obtain⟨k7,b7,_⟩:=Zl3 b6 (by omega);obtain⟨k8,b8,_⟩:=ZkB b0 (by omega);obtain⟨k9,b9,_⟩:=Zq b8 (by omega) 64 (by decide) (by decide);obtain⟨ka,ba,g0,g1⟩:=Zq b9 (by omega) 4 (by decide) (by decide);have r1:Zf (Za (Za s' 8).2 4).1 4=true:=Zx.2 ⟨e0,e1⟩;have r2:Zf (Za (Za (Za (Za s' 8).2 4).2 256).2 4).1 4=true:=Zx.2 ⟨f0,f1⟩;have r3:Zf (Za (Za (Zan (Za s' 8).2).2 64).2 4).1 4=true:=Zx.2 ⟨g0,g1⟩;have hb:∀x:List Int,x.length<=12->Nat.ble (o++x).length most=true:=λx hx=>ZV (by rw[Yd];omega)
    have q1:∀a b c:Int,Nat.ble (o++[a,b,c]).length most=true:=λa b c=>hb _ (by simp)
    have q2:∀a b c d:Int,Nat.ble (o++[a,b,c,d]).length most=true:=λa b c d=>hb _ (by simp)
    have q3:∀a:Int,Nat.ble (o++[a]).length most=true:=λa=>hb _ (by simp)
    have q4:∀a b c d e f g h i j k l:Int,Nat.ble (o++[a,b,c,d,e,f,g,h,i,j,k,l]).length most=true:=λa b c d e f g h i j k l=>hb _ (by simp)
    have hv:∃s2 x,x.length<=12/\NB s2 (k+1+10*((q-i:Nat):Int))/\(Zdk (((i+1:Nat):Int),s',o,())).val=some (Go1.cont ((i:Int),s2,o++x,())):=by
     simp only[Zdk,RT.val,List.length_cons,List.length_nil,Nat.reduceAdd,d,w,k0,k1,k2,k3,k4,k5,k6,k7,k8,k9,ka,r1,r2,r3,q1,q2,q3,q4,Ya,Yf,Yi,Yh,Yt];cases (Za s' 8).1==0
     ·cases (Za s' 8).1==1
      ·cases (Za s' 8).1==2
       ·cases (Za s' 8).1==3
        ·exact⟨_,[(Zan (Za s' 8).2).1,IntKind.wrap .u8 (Za (Zan (Za s' 8).2).2 64).1,R.get (R.int .u8) [0,0,1,255] (Za (Za (Zan (Za s' 8).2).2 64).2 4).1],by simp,ba.up (by omega),rfl⟩
        ·exact⟨_,[62,IntKind.wrap .u8 (IntKind.wrap .i64 (16+(Za (Za s' 8).2 16).1)),211,0,62,(Zc7 (Za (Za s' 8).2 16).2).1,211,1,62,0,211,1],by simp,b7.up (by omega),rfl⟩
       ·exact⟨_,[251],by simp,b0.up (by omega),rfl⟩
      ·exact⟨_,[62,(Zc7 (Za s' 8).2).1,211,IntKind.wrap .u8 (Za (Zc7 (Za s' 8).2).2 8).1],by simp,b5.up (by omega),rfl⟩
     ·exact⟨_,[R.get (R.int .u8) [33,49,1,17] (Za (Za s' 8).2 4).1,IntKind.wrap .u8 (Za (Za (Za s' 8).2 4).2 256).1,R.get (R.int .u8) [0,0,1,255] (Za (Za (Za (Za s' 8).2 4).2 256).2 4).1],by simp,b3.up (by omega),rfl⟩
    obtain⟨s2,x,hx,hs2,hv⟩:=hv
    exact⟨_,hv,⟨i,s2,o++x,by omega,hs2,by rw[Yd];omega,rfl⟩,by simp only;omega⟩)
  ((q:Int),s1,[],()) ⟨q,s1,[],Ye _,by simpa using b1,by simp,rfl⟩ (by simp only;omega)
 obtain⟨r1,r2⟩:=r;simp only at h1 hR;subst h1 hR;have hv:(ZgP s (n:Int)).val=some (o,s'):=by simp only[ZgP,RT.val,w0,c1,hq,<-hs1,hr,okB,getO,Ya]
 simp only[ZgQ,Zck,hv,okB,getO];exact⟨trivial,hs'.up (by omega),by omega⟩
theorem Zyc (t:Int) (b:List Int):(ZpV t b).length<=b.length:=by have:=Zep (Zo2 t b b.length);rw[Zo1] at this;exact this
theorem ZNj (h:NB s k) (hk:k<=300000):Zij s=true/\NB (ZdL s).2 (k+20):=by
 obtain⟨c1,b1,_⟩:=Zq h (by omega) 64 (by decide) (by decide);obtain⟨c2,b2,_⟩:=Zq b1 (by omega) 256 (by decide) (by decide);obtain⟨c3,b3,_⟩:=ZkB b1 (by omega);obtain⟨f1,g1⟩:=Zjo b1 (by omega);obtain⟨f2,g2⟩:=Zjo g1 (by omega);obtain⟨f3,g3⟩:=Zjo g2 (by omega);obtain⟨f4,g4⟩:=Zjo g3 (by omega);obtain⟨f5,g5⟩:=Zjo g4 (by omega);obtain⟨c4,b4,_⟩:=Zq g5 (by omega) 256 (by decide) (by decide);obtain⟨c5,b5,_⟩:=Zq b4 (by omega) 256 (by decide) (by decide);have hv:∃c s',(ZoM s).val=some (c,s')/\NB s' (k+20):=by
  simp only[ZoM,RT.val,c1,c2,c3,c4,c5,f1,f2,f3,f4,f5,Ya,Yf,Yi,Yh,Yt];cases decide ((Za s 64).1<30) with
  |true=>exact⟨_,_,rfl,b1.up (by omega)⟩
  |false=>
  cases decide ((Za s 64).1<36) with
  |true=>exact⟨_,_,rfl,b1.up (by omega)⟩
  |false=>
  cases decide ((Za s 64).1<40) with
  |true=>exact⟨_,_,rfl,b1.up (by omega)⟩
  |false=>
  cases decide ((Za s 64).1<46) with
  |true=>exact⟨_,_,rfl,b2.up (by omega)⟩
  |false=>
  cases decide ((Za s 64).1<50) with
  |true=>exact⟨_,_,rfl,b1.up (by omega)⟩
  |false=>
  cases decide ((Za s 64).1<53) with
  |true=>exact⟨_,_,rfl,b1.up (by omega)⟩
  |false=>
  cases decide ((Za s 64).1<55) with
  |true=>exact⟨_,_,rfl,b1.up (by omega)⟩
  |false=>
  cases ((Za s 64).1==55) with
  |true=>exact⟨_,_,rfl,b1.up (by omega)⟩
  |false=>
  cases decide ((Za s 64).1<60) with
  |true=>exact⟨_,_,rfl,b3.up (by omega)⟩
  |false=>exact⟨_,_,rfl,b5.up (by omega)⟩
 obtain⟨c,s',hv,h1⟩:=hv;simp only[Zij,ZdL,hv,okB,getO];exact⟨trivial,h1⟩
theorem ZVI (s:List Int×Int) (z:Int) (c:INPT) (kk:Nat) (hk:kk<300) (o:List INPT) (size:Nat) (ho:o.length<=size) (hz:size<=300):
  ∃k2 o2,runF false Zd5 (λ_=>400) ((size:Int),(kk:Int),s,c,o,())=some (false,(size:Int),k2,s,c,o2,())/\o2.length<=size/\o.length<=o2.length/\(o.length<size->o.length<o2.length):=by
 have hms:=mst;obtain⟨r,hr,h1,k2,o2,e1,e2,e3,e4⟩:=ZC (fl:=false) (t:=Zd5) (fuel:=λ_=>400)
  (λa=>∃(j:Nat) (o2:List INPT),j<=kk+1/\o2.length<=size/\o.length<=o2.length/\(j=kk+1\/o.length<o2.length)/\a=((size:Int),(j:Int)-1,s,c,o2,()))
  (λa=>Int.toNat (a.2.1+1)) (λr=>r.1=false/\∃k2 o2,r.2=((size:Int),k2,s,c,o2,())/\o2.length<=size/\o.length<=o2.length/\(o.length<size->o.length<o2.length))
  (by
   rintro a ⟨j,o2,hj,h2,h3,h4,rfl⟩;have w:∀j:Nat,j<=1000->IntKind.wrap .i64 (((j:Nat):Int)-1-1)=(j:Int)-1-1:=λj hj=>wrap_i64 _ (by omega) (by omega)
   by_cases hc:1<=j/\o2.length<size
   ·left;have d1:decide (((j:Nat):Int)-1>=0)=true:=YA (by omega);have d2:decide (iN o2.length<(size:Int))=true:=YA (by simp only[iN];omega);have hb:Nat.ble (o2++[c]).length most=true:=ZV (by simp;omega);refine⟨((size:Int),(j:Int)-1-1,s,c,o2++[c],()),?_,⟨j-1,o2++[c],by omega,by simp;omega,by simp;omega,by right;simp;omega,?_⟩,by simp only;omega⟩
    ·simp only[Zd5,RT.val,d1,d2,hb,YQ,Ya,w j (by omega)]
    ·have:((j:Nat):Int)-1=((j-1:Nat):Int):=by omega
     rw[this]
   ·right;left;have d:(decide (((j:Nat):Int)-1>=0)&&decide (iN o2.length<(size:Int)))=false:=by simp only[iN,Yaa,Y6];omega
    exact⟨((size:Int),(j:Int)-1,s,c,o2,()),by simp only[Zd5,RT.val,d,Yc],rfl,_,o2,rfl,h2,h3,λh=>by
     rcases h4 with h4|h4
     ·omega
     ·exact h4⟩)
  ((size:Int),(kk:Int),s,c,o,()) ⟨kk+1,o,Ye _,ho,Ye _,.inl rfl,by
   have:(kk:Int)=((kk+1:Nat):Int)-1:=by omega
   rw[<-this]⟩ (by simp only;omega)
 obtain⟨r1,r2⟩:=r;simp only at h1 e1;subst h1 e1;exact⟨k2,o2,hr,e2,e3,e4⟩
theorem ZHN (h:NB s k) (hk:k<=100000) (n:Nat) (hn:n<=250):
  Zjn s (n:Int)=true/\NB (Zab s (n:Int)).2 (k+1+30*n)/\(Zab s (n:Int)).1.length<=n:=by
 have hms:=mst;have w0:IntKind.wrap .i64 ((n:Int)+1)=(n:Int)+1:=wrap_i64 _ (by omega) (by omega);obtain⟨c1,b1,d0,d1⟩:=Zq h (by omega) ((n:Int)+1) (by omega) (by omega);obtain⟨s1,hs1⟩:∃s1,s1=(Za s ((n:Int)+1)).2:=⟨_,rfl⟩;obtain⟨q,hq⟩:∃q:Nat,(Za s ((n:Int)+1)).1=(q:Int):=⟨_,(Yam d0).symm⟩;rw[<-hs1] at b1;obtain⟨r,hr,h1,s',o,hs',ho,hR⟩:=ZC (fl:=false) (t:=Zfn) (fuel:=λa=>400)
  (λa=>∃(s':List Int×Int) (o:List INPT),NB s' (k+1+30*(o.length:Int))/\o.length<=q/\a=((q:Int),s',o,()))
  (λa=>Int.toNat a.1-a.2.2.1.length) (λr=>r.1=false/\∃(s':List Int×Int) (o:List INPT),NB s' (k+1+30*(q:Int))/\o.length<=q/\r.2=((q:Int),s',o,()))
  (by
   rintro a ⟨s',o,hs',ho,rfl⟩;by_cases hc:o.length<q
   ·left;have d:decide (iN o.length<(q:Int))=true:=YA (by simp only[iN];omega);obtain⟨i1,g1⟩:=ZNj hs' (by omega);obtain⟨i2,g2,m0,m1⟩:=Zq g1 (by omega) 4 (by decide) (by decide);obtain⟨i3,g3,m2,m3⟩:=Zq g2 (by omega) 5 (by decide) (by decide);obtain⟨x,hx⟩:∃x:Nat,(Za (ZdL s').2 4).1=(x:Int):=⟨_,(Yam m0).symm⟩;obtain⟨y,hy⟩:∃y:Nat,(Za (Za (ZdL s').2 4).2 5).1=(y:Int):=⟨_,(Yam m2).symm⟩;have hxy:x*y<=3*4:=Nat.mul_le_mul (by omega) (by omega);have w:IntKind.wrap .i64 ((x:Int)*(y:Int))=((x*y:Nat):Int):=by rw[show (x:Int)*(y:Int)=((x*y:Nat):Int) by simp,wrap_i64 _ (by omega) (by omega)]
    obtain⟨k2,o2,hr,e2,e3,e4⟩:=ZVI (Za (Za (ZdL s').2 4).2 5).2 0 (ZdL s').1 (x*y) (by omega) o q ho (by omega);have e5:=e4 hc;refine⟨((q:Int),(Za (Za (ZdL s').2 4).2 5).2,o2,()),?_,⟨_,o2,g3.up (by omega),e2,rfl⟩,by simp only;omega⟩;simp only[Zfn,RT.val,d,i1,i2,i3,hx,hy,w,hr,okB,getO,Ya,Yf,Yi,Yh,Yt]
   ·right;left;have d:decide (iN o.length<(q:Int))=false:=YV (by simp only[iN];omega)
    exact⟨_,by simp only[Zfn,RT.val,d,Yc],rfl,s',o,hs'.up (by omega),ho,rfl⟩)
  ((q:Int),s1,[],()) ⟨s1,[],by simpa using b1,by simp,rfl⟩ (by simp only[List.length_nil];omega)
 obtain⟨r1,r2⟩:=r;simp only at h1 hR;subst h1 hR;have hv:(Zjm s (n:Int)).val=some (o,s'):=by simp only[Zjm,RT.val,w0,c1,hq,<-hs1,hr,okB,getO,Ya]
 simp only[Zjn,Zab,hv,okB,getO];exact⟨trivial,hs'.up (by omega),by omega⟩
theorem ZxW (h:NB s k) (hk:k<=10000):
  ZoR s=true/\NB (ZcA s).2 (k+300)/\(∃s1,NB s1 (k+1)/\(ZcA s).1.2.1=(nMap s1).1)/\((ZcA s).1.1=1\/(ZcA s).1.1=2)/\
   (0<=(ZcA s).1.2.2.1/\(ZcA s).1.2.2.1<=2)/\∃l:List Cell,l.length<=200/\(ZcA s).1.2.2.2.2.2.2=normX l:=by
 have hms:=mst;obtain⟨c0,b0,hch⟩:=ZQ9 h (by omega);obtain⟨c1,b1,l1⟩:=ZBW b0 (by omega);obtain⟨c2,b2,w0,w1⟩:=Zq b1 (by omega) 3 (by decide) (by decide);obtain⟨c3,b3,_⟩:=Zq b2 (by omega) 4 (by decide) (by decide);obtain⟨c4,b4,_⟩:=Zq b3 (by omega) 6 (by decide) (by decide);obtain⟨c5,b5,_⟩:=Zl3 b4 (by omega);obtain⟨c6,b6,_⟩:=Zl3 b5 (by omega)
 obtain⟨s2,hs2,b7⟩:∃s2,s2=((bif (Za (Za (Za (nMap (Za4 s).2).2 3).2 4).2 6).1==0 then (Zc7 (Zc7 (Za (Za (Za (nMap (Za4 s).2).2 3).2 4).2 6).2).2).2.1 else (Za (Za (Za (nMap (Za4 s).2).2 3).2 4).2 6).2.1,
   bif (Za (Za (Za (nMap (Za4 s).2).2 3).2 4).2 6).1==0 then (Zc7 (Zc7 (Za (Za (Za (nMap (Za4 s).2).2 3).2 4).2 6).2).2).2.2 else (Za (Za (Za (nMap (Za4 s).2).2 3).2 4).2 6).2.2):List Int×Int)/\NB s2 (k+30):=by
  refine⟨_,rfl,?_⟩;cases (Za (Za (Za (nMap (Za4 s).2).2 3).2 4).2 6).1==0
  ·exact b4.up (by omega)
  ·exact b6.up (by omega)
 obtain⟨c8,b8,l8⟩:=ZBS b7 (by omega) 12 (by omega);have c8:ZgQ s2 12=true:=c8;have b8:NB (Zck s2 12).2 (k+30+1+10*((12:Nat):Int)):=b8;have l8:(Zck s2 12).1.length<=12*12:=l8;obtain⟨c9,b9,d0,d1⟩:=Zq b8 (by omega) 4 (by decide) (by decide);have hl:=Zyc 0 (Zck s2 12).1;obtain⟨q,hq⟩:∃q:Nat,(Za (Zck s2 12).2 4).1=(q:Int):=⟨_,(Yam d0).symm⟩;have hg:∀l:List Cell,Stg.l (newG Zhp Zhq l)=l:=λ_=>rfl
 have key:∀x y z:BRDT,∀o:List Cell,o.length<=144->∃s' o',NB s' (k+200)/\o'.length<=200/\
   runF false Zfo (λ_=>400) ((q:Int),(Za (Zck s2 12).2 4).2,x,y,o,())=some (false,0,s',x,y,o',()):=by
  intro x y z o ho;obtain⟨r,hr,h1,s',o',g1,g2,g3⟩:=ZC (fl:=false) (t:=Zfo) (fuel:=λ_=>400)
   (λa=>∃(i:Nat) (s':List Int×Int) (o:List Cell),i<=q/\NB s' (k+30+1+10*((12:Nat):Int)+1+4*((q-i:Nat):Int))/\o.length<=144+3*(q-i)/\a=((i:Int),s',x,y,o,()))
   (λa=>Int.toNat a.1) (λr=>r.1=false/\∃s' o',NB s' (k+200)/\o'.length<=200/\r.2=(0,s',x,y,o',()))
   (by
    rintro a ⟨i,s',o,hi,hs',ho,rfl⟩;cases i with
    |zero=>
     right;left;exact⟨_,by simp only[Zfo,RT.val];rfl,rfl,s',o,hs'.up (by omega),by omega,rfl⟩
    |succ i=>
     left;have d:decide (((i+1:Nat):Int)>0)=true:=YA (by omega);have w:IntKind.wrap .i64 (((i+1:Nat):Int)-1)=(i:Int):=by rw[wrap_i64 _ (by omega) (by omega)];omega
     obtain⟨k0,b0,e0,e1⟩:=Zq hs' (by omega) 6 (by decide) (by decide);obtain⟨k1,b1,_⟩:=ZkB b0 (by omega);have r1:Zf (Za s' 6).1 6=true:=Zx.2 ⟨e0,e1⟩;have hsb:∀a b c:Int,smB [a,b,c]=true:=λa b c=>ZSh (by simp)
     have hll:=Zyc (IntKind.wrap .u16 (R.get (R.int .i64) [36,60,52,44,56,32] (Za s' 6).1)) [(Zan (Za s' 6).2).1,251,201];simp only[List.length_cons,List.length_nil] at hll;have hb:Nat.ble (o++ZpV (IntKind.wrap .u16 (R.get (R.int .i64) [36,60,52,44,56,32] (Za s' 6).1)) [(Zan (Za s' 6).2).1,251,201]).length most=true:=ZV (by rw[Yd];omega);refine⟨((i:Int),(Zan (Za s' 6).2).2,x,y,o++ZpV (IntKind.wrap .u16 (R.get (R.int .i64) [36,60,52,44,56,32] (Za s' 6).1)) [(Zan (Za s' 6).2).1,251,201],()),?_,⟨i,_,_,by omega,b1.up (by omega),by rw[Yd];omega,rfl⟩,by simp only;omega⟩
     simp only[Zfo,RT.val,hg,List.length_cons,List.length_nil,Nat.reduceAdd,d,w,k0,k1,r1,hsb,hb,Ya,Yf,Yi,Yh,Yt])
   ((q:Int),(Za (Zck s2 12).2 4).2,x,y,o,()) ⟨q,_,o,Ye _,b9.up (by omega),by omega,rfl⟩ (by simp only;omega)
  obtain⟨r1,r2⟩:=r;simp only at h1 g3;subst h1 g3;exact⟨s',o',g1,g2,hr⟩
 obtain⟨s',o',g1,g2,hr⟩:=key (0,[],0,0,0,false,[]) ((Za4 s).1,(nMap (Za4 s).2).1,(Za (nMap (Za4 s).2).2 3).1,bif (Za (Za (Za (nMap (Za4 s).2).2 3).2 4).2 6).1==0 then (Zc7 (Za (Za (Za (nMap (Za4 s).2).2 3).2 4).2 6).2).1 else 0,
  bif (Za (Za (Za (nMap (Za4 s).2).2 3).2 4).2 6).1==0 then (Zc7 (Zc7 (Za (Za (Za (nMap (Za4 s).2).2 3).2 4).2 6).2).2).1 else 4,(Za (Za (nMap (Za4 s).2).2 3).2 4).1==0,[]) (0,[],0,0,0,false,[]) (ZpV 0 (Zck s2 12).1) (by omega)
 have hsc:smC o'=true:=ZWy (by omega);have hsb:smB (Zck s2 12).1=true:=ZSh (by omega);have hv:∃p d,(ZoQ s).val=some (((Za4 s).1,(nMap (Za4 s).2).1,(Za (nMap (Za4 s).2).2 3).1,p,d,(Za (Za (nMap (Za4 s).2).2 3).2 4).1==0,normX o'),s'):=by
  refine⟨bif (Za (Za (Za (nMap (Za4 s).2).2 3).2 4).2 6).1==0 then (Zc7 (Za (Za (Za (nMap (Za4 s).2).2 3).2 4).2 6).2).1 else 0,
   bif (Za (Za (Za (nMap (Za4 s).2).2 3).2 4).2 6).1==0 then (Zc7 (Zc7 (Za (Za (Za (nMap (Za4 s).2).2 3).2 4).2 6).2).2).1 else 4,?_⟩
  simp only[ZoQ,RT.val,hg,<-hs2,c0,c1,c2,c3,c4,c5,c6,c8,c9,hsb,hq,hr,hsc,okB,getO,Ya,Yf,Yi,Yh,Yt]
 obtain⟨p,d,hv⟩:=hv;have e1:ZoR s=true:=by simp only[ZoR,hv];rfl
 have e2:ZcA s=(((Za4 s).1,(nMap (Za4 s).2).1,(Za (nMap (Za4 s).2).2 3).1,p,d,(Za (Za (nMap (Za4 s).2).2 3).2 4).1==0,normX o'),s'):=by simp only[ZcA,hv,getO]
 rw[e2];exact⟨e1,g1.up (by omega),⟨_,b0,rfl⟩,hch,⟨w0,by show (Za (nMap (Za4 s).2).2 3).1<=2;omega⟩,o',g2,rfl⟩
theorem ZTw (s:Int) {l:Int} (h:0<=l):vOnC s l=true:=by simp only[vOnC,vOnT,RT.val,YA h,Ya,okB]
theorem ZrL (s k:Int):ZiF s k=true/\ -1<=Zdx s k/\Zdx s k<=7:=by
 obtain⟨r,hr,h0,h1,h2⟩:=ZC (fl:=false) (t:=Zdv) (fuel:=λ_=>9)
  (λa=>∃(i:Nat) (m:Int),i<=8/\ -1<=m/\m<=7/\a=(s,k,m,(i:Int),()))
  (λa=>Int.toNat (8-a.2.2.2.1)) (λr=>r.1=false/\ -1<=r.2.2.2.1/\r.2.2.2.1<=7)
  (by
   rintro a ⟨i,m,hi,h1,h2,rfl⟩;by_cases hlt:i<8
   ·left;have d:decide ((i:Int)<8)=true:=YA (by omega);have w:IntKind.wrap .i64 ((i:Int)+1)=((i+1:Nat):Int):=by rw[wrap_i64 _ (by omega) (by omega)];omega
    have c:vOnC s (i:Int)=true:=ZTw s (by omega);refine⟨(s,k,bif vOn s (i:Int)&&(decide (m<0)||decide (Zde (i:Int) k<Zde m k)) then (i:Int) else m,((i+1:Nat):Int),()),by simp only[Zdv,RT.val,d,c,w,Ya],⟨i+1,_,by omega,?_,?_,rfl⟩,by simp only;omega⟩
    ·cases vOn s (i:Int)&&(decide (m<0)||decide (Zde (i:Int) k<Zde m k))<;>simp only[Ya,Yc]<;>omega
    ·cases vOn s (i:Int)&&(decide (m<0)||decide (Zde (i:Int) k<Zde m k))<;>simp only[Ya,Yc]<;>omega
   ·right;left;have d:decide ((i:Int)<8)=false:=YV (by omega)
    exact⟨(s,k,m,(i:Int),()),by simp only[Zdv,RT.val,d,Yc],rfl,h1,h2⟩)
  (s,k,-1,0,()) ⟨0,-1,by omega,by omega,by omega,rfl⟩ (by simp only;omega)
 obtain⟨r1,r2⟩:=r;simp only at h0 h1 h2;subst h0;have hv:(Zmy s k).val=some r2.2.2.1:=by simp only[Zmy,RT.val,hr,okB,getO,Ya]
 exact⟨by simp only[ZiF,hv];rfl,by simp only[Zdx,hv,getO];exact h1,by simp only[Zdx,hv,getO];exact h2⟩
theorem ZrJ (p:PICT):ZrK p=true/\ -1<=vPck p/\vPck p<=7:=by
 have key:∀r m s k q,∃v:Int,(Zmx r m s k q).val=some v/\ -1<=v/\v<=7:=by
  intro r m s k q;have h1:=ZrL (ZX .u8 r m) k;have h2:=ZrL (ZcQ m s q) k;simp only[Zmx,RT.val,h1.1,h2.1,Ya];cases decide (Zdx (ZX .u8 r m) k>=0)&&(decide (Zdx (ZcQ m s q) k<0)||decide (Zde (Zdx (ZX .u8 r m) k) k<Zde (Zdx (ZcQ m s q) k) k))
  ·exact⟨-1,rfl,by omega,by omega⟩
  ·exact⟨_,rfl,h1.2.1,h1.2.2⟩
 obtain⟨v,hv,h1,h2⟩:=key (vReq p) p.2.2.2.2.2.2.2.2.2.2.2.2.2.2.2.1 p.2.2.2.2.2.2.2.2.2.2.2.2.2.2.1 p.2.2.2.2.2.2.2.2.2.2.2.2.2.2.2.2.1 p.2.2.2.2.2.2.2.2.2.1;have e:(ZF2 p).val=some v:=by simp only[ZF2,RT.val,Zvp,ZF1,hv,okB,getO,Ya]
 exact⟨by simp only[ZrK,e];rfl,by simp only[vPck,e,getO];exact h1,by simp only[vPck,e,getO];exact h2⟩
theorem ZTx (p:PICT):ZIN p=true:=by simp only[ZIN,ZIM,RT.val,(ZrJ p).1,Ya,okB]
variable {x:Int}
theorem ZCP (p:PICT) (h:0<=x):ZhL p x=true:=by simp only[ZhL,Zvl,RT.val,YA h,Ya,okB]
theorem ZCR (p:PICT) (h:0<=x):ZiG p x=true:=by simp only[ZiG,ZCS,RT.val,YA h,Ya,okB]
theorem ZIP (p:PICT):ZIR p=true:=by
 have h1:=(ZrJ p).1;have h3:∀q:PICT,ZiG q (andI .i64 p.2.2.2.2.2.2.2.2.2.2.2.2.2.2.2.2.2.2.1 7)=true:=λq=>ZCR q (and7 _).1
 have h2:∀q:PICT,(!decide (vPck p>=0)||ZhL q (vPck p))=true:=λq=>by
  by_cases h:vPck p>=0
  ·rw[ZCP q h,Yh]
  ·rw[YV h];rfl
 unfold ZIR ZIQ;simp only[RT.val,h1,h2,h3,Yh,Ya];cases p.2.2.2.2.2.2.2.2.2.2.2.2.2.2.2.2.2.1==0
 ·cases p.2.2.2.2.2.2.2.2.2.2.2.2.2.2.2.2.2.1==1
  ·rfl
  ·cases p.2.2.1<;>rfl
 ·rfl
theorem ZCQ (p:PICT) (h:Bool):Zvo p h=true:=by
 have h1:=(ZrJ p).1;unfold Zvo Zvn;by_cases hx:0<=vPck p
 ·have h2:∀q:PICT,ZhL q (vPck p)=true:=λq=>ZCP q hx
  have h3:∀q:PICT,ZiG q (vPck p)=true:=λq=>ZCR q hx
  simp only[RT.val,h1,h2,h3,ZaM,Zae,Yh,Yf,Ya];cases h
  ·cases p.2.2.2.2.2.2.2.2.2.2.2.1
   ·cases p.2.2.2.2.2.2.2.2.2.2.1<;>rfl
   ·cases decide (vPck p<0)<;>rfl
  ·rfl
 ·have h2:decide (vPck p<0)=true:=YA (by omega);simp only[RT.val,h1,h2,ZaM,Zae,Yh,Yv,Yf,Ya];cases h
  ·cases p.2.2.2.2.2.2.2.2.2.2.2.1
   ·cases p.2.2.2.2.2.2.2.2.2.2.1<;>rfl
   ·rfl
  ·rfl
theorem ZPm (p:PICT) (v:Int):Zvr p v=true:=by
 have h1:=λs k=>(ZrL s k).1
 have h2:∀x:Int,(!decide (x>=0)||decide (0<=x))=true:=λx=>by by_cases h:0<=x<;>simp[h]
 have h3:decide (0<=IntKind.wrap .i64 (andI .u8 v 7))=true:=by have:=ZXS v;rw[wrap_i64 _ (by omega) (by omega)];exact YA this.1
 unfold Zvr Zvq;simp only[RT.val,h1,h2,h3,ZaM,Zae,Yh,Yf,Ya];rfl
theorem Zvk (p:PICT) (h:Bool) (v:Int):Zmu p h v=true:=by
 unfold Zmu Zmt;simp only[RT.val,ZPm,Yh,Ya];cases h
 ·cases andI .u8 v 16 !=0
  ·cases andI .u8 v 8==0<;>rfl
  ·rfl
 ·rfl
theorem ZIJ (d:QT4) (r:Int):Zmw d r=true:=by have h:=and3 r;have h1:decide (0<=andI .i64 r 3/\andI .i64 r 3<4)=true:=YA ⟨h.1,by omega⟩;simp only[Zmw,Zmv,RT.val,h1,Ya,okB]
theorem ZeR (o:Bool) {n:Int} (h:0<=n):Zfz o n=true:=by simp only[Zfz,ZPj,RT.val,YA h,Yh,Ya];cases o<;>rfl
theorem ZFX (l:List INPT) (hl:l.length<=1000):Zlz l=true/\(Zh1 l).length=4*l.length:=by
 have hms:=mst;obtain⟨r,hr,h0,h1⟩:=ZC (fl:=false) (t:=Zdd) (fuel:=λ_=>1000000000000)
  (λa=>∃(i:Nat) (o:List Int),i<=l.length/\o.length=4*i/\a=(l,(l.length:Int),(i:Int),o,()))
  (λa=>Int.toNat (a.2.1-a.2.2.1)) (λr=>r.1=false/\r.2.2.2.2.1.length=4*l.length)
  (by
   rintro a ⟨i,o,hi,ho,rfl⟩;by_cases hlt:i<l.length
   ·left;have d:decide ((i:Int)<(l.length:Int))=true:=YA (by omega);have d2:decide ((i:Int)>=65536)=false:=YV (by omega);have hin:Zf (i:Int) l.length=true:=Zx.2 ⟨by omega,by omega⟩;have w:IntKind.wrap .i64 ((i:Int)+1)=((i+1:Nat):Int):=by rw[wrap_i64 _ (by omega) (by omega)];omega
    have hb:∀a b c d:Int,Nat.ble (o++[a,b,c,d]).length most=true:=λa b c d=>ZV (by simp;omega)
    have b0:=λx=>ZeR x (n:=0) (by decide)
    have b1:=λx=>ZeR x (n:=1) (by decide)
    have b2:=λx=>ZeR x (n:=2) (by decide)
    have b3:=λx=>ZeR x (n:=3) (by decide)
    have b4:=λx=>ZeR x (n:=4) (by decide)
    have b5:=λx=>ZeR x (n:=5) (by decide)
    have b6:=λx=>ZeR x (n:=6) (by decide)
    have b7:=λx=>ZeR x (n:=7) (by decide)
    have hv:∃a b c d:Int,(Zdd (l,(l.length:Int),(i:Int),o,())).val=some (Go1.cont (l,(l.length:Int),((i+1:Nat):Int),o++[a,b,c,d],())):=by simp only[Zdd,RT.val,d,d2,hin,w,hb,b0,b1,b2,b3,b4,b5,b6,b7,ZaM,Zae,Yh,Yf,Yi,Yt,Ya,Yc];exact⟨_,_,_,_,rfl⟩
    obtain⟨a,b,c,d,hv⟩:=hv;exact⟨_,hv,⟨i+1,_,by omega,by simp;omega,rfl⟩,by simp only;omega⟩
   ·right;left;have d:decide ((i:Int)<(l.length:Int))=false:=YV (by omega)
    exact⟨(l,(l.length:Int),(i:Int),o,()),by simp only[Zdd,RT.val,d,Yc],rfl,by simp only;omega⟩)
  (l,(l.length:Int),0,[],()) ⟨0,[],by omega,rfl,rfl⟩ (by simp only;omega)
 obtain⟨r1,r2⟩:=r;simp only at h0 h1;subst h0;have hv:(Zfx l).val=some r2.2.2.2.1:=by simp only[Zfx,RT.val,iN,hr,okB,getO,Ya]
 exact⟨by simp only[Zlz,hv];rfl,by simp only[Zh1,hv,getO];exact h1⟩
theorem Zp3 (l:List Int) (hl:l.length<=4000):ZiD l=true/\(ZaB l).length=l.length/4:=by
 have hms:=mst;obtain⟨r,hr,h0,h1⟩:=ZC (fl:=false) (t:=Zbs) (fuel:=λ_=>1000000000000)
  (λa=>∃(i:Nat) (o:List INPT),4*i<=l.length/\o.length=i/\a=(l,((4*i:Nat):Int),o,()))
  (λa=>Int.toNat (l.length-a.2.1)) (λr=>r.1=false/\r.2.2.2.1.length=l.length/4)
  (by
   rintro a ⟨i,o,hi,ho,rfl⟩;have w1:IntKind.wrap .i64 (((4*i:Nat):Int)+1)=((4*i+1:Nat):Int):=by rw[wrap_i64 _ (by omega) (by omega)];omega
   have w2:IntKind.wrap .i64 (((4*i:Nat):Int)+2)=((4*i+2:Nat):Int):=by rw[wrap_i64 _ (by omega) (by omega)];omega
   have w3:IntKind.wrap .i64 (((4*i:Nat):Int)+3)=((4*i+3:Nat):Int):=by rw[wrap_i64 _ (by omega) (by omega)];omega
   have w4:IntKind.wrap .i64 (((4*i:Nat):Int)+4)=((4*(i+1):Nat):Int):=by rw[wrap_i64 _ (by omega) (by omega)];omega
   by_cases hlt:4*i+4<=l.length
   ·left;have d:(decide (((4*(i+1):Nat):Int)<=iN l.length)&&decide (iN o.length<65536))=true:=by simp only[iN,Yb,Yj];omega
    have i0:Zf ((4*i:Nat):Int) l.length=true:=Zx.2 ⟨by omega,by omega⟩;have i1:Zf ((4*i+1:Nat):Int) l.length=true:=Zx.2 ⟨by omega,by omega⟩;have i2:Zf ((4*i+2:Nat):Int) l.length=true:=Zx.2 ⟨by omega,by omega⟩;have i3:Zf ((4*i+3:Nat):Int) l.length=true:=Zx.2 ⟨by omega,by omega⟩;have hb:∀a:INPT,Nat.ble (o++[a]).length most=true:=λa=>ZV (by simp;omega)
    have hv:∃x:INPT,(Zbs (l,((4*i:Nat):Int),o,())).val=some (Go1.cont (l,((4*(i+1):Nat):Int),o++[x],())):=by
     simp only[Zbs,RT.val,w1,w2,w3,w4,d,i0,i1,i2,i3,hb,ZaM,Zae,Yh,Yf,Yi,Yt,Ya,Yc];cases R.get (R.int .u8) l ((4*i+3:Nat):Int) !=Zfa (R.get (R.int .u8) l ((4*i:Nat):Int)) (R.get (R.int .u8) l ((4*i+1:Nat):Int)) (R.get (R.int .u8) l ((4*i+2:Nat):Int))
     ·exact⟨_,rfl⟩
     ·exact⟨_,rfl⟩
    obtain⟨x,hv⟩:=hv;exact⟨_,hv,⟨i+1,_,by omega,by simp;omega,rfl⟩,by simp only;omega⟩
   ·right;left;have d:(decide (((4*(i+1):Nat):Int)<=iN l.length)&&decide (iN o.length<65536))=false:=by simp only[iN,Yaa,Y6];left;omega
    exact⟨(l,((4*i:Nat):Int),o,()),by simp only[Zbs,RT.val,w4,d,Yc],rfl,by simp only;omega⟩)
  (l,0,[],()) ⟨0,[],by omega,rfl,rfl⟩ (by simp only;omega)
 obtain⟨r1,r2⟩:=r;simp only at h0 h1;subst h0;have hv:(Zfy l).val=some r2.2.2.1:=by simp only[Zfy,RT.val,hr,okB,getO,Ya]
 exact⟨by simp only[ZiD,hv];rfl,by simp only[ZaB,hv,getO];exact h1⟩
abbrev MacT:=List ZO×List Cell×List Int×List (Int×Int)
theorem Zix (l:List ZO) (m:List Cell) (t v:Int):(ZaK l m t v).length<=m.length+1:=by
 have h:=Zep m;unfold ZaK;cases decide (ZcC l t>=0)&&(R.get GR l (ZcC l t)).2.2.1
 ·exact YS h (YaO _)
 ·exact YS (ZsD _ _) (by omega)
def pre (o:List (Int×Int)) (m:MacT):MacT:=(m.1,m.2.1,m.2.2.1,o++m.2.2.2)
end
end Go.Proofs.YtpnjbfjomebppaaGreat
