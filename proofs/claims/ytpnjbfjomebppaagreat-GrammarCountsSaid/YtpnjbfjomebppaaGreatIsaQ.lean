import Derived.Test.YtpnjbfjomebppaaGreatRunL
import Derived.Test.YtpnjbfjomebppaaGreatS3New
open Go.Proofs.Tryz (prog)
open Go.IntKind (u8 u16 i64)
set_option linter.unusedSimpArgs false
open Go Go.S3 Go.Proofs
set_option linter.unusedVariables false
set_option maxRecDepth 100000
namespace Go.Proofs.YtpnjbfjomebppaaGreat
noncomputable section
abbrev ZoE:R:=R.Pq (R.int u16) (R.int u8)
abbrev ZoF:Nat:=75
abbrev Zu4:List Sh:=[Sh.one rcCE,Sh.agg (R.Pq (R.int u16) (R.int u8))]
def ZIl:LS:={n:=53,Sl:=[(3,.fix (A.loc 0 0)),(5,.tip 0),(6,.code (Sh.one R.bool)),(9,.code (Sh.one rcCE)),(10,.code (Sh.one (R.int i64))),(11,.code (Sh.one (R.int i64)))],Bx:=[[.many (R.Pq (R.int u16) (R.int u8))]],Sg:=[⟨(R.Pq (R.int u16) (R.int u8)),75,false⟩]}
def Zyq (a:QT7):RT (Option (Go1 (QT7))):=
 let x1:Int×Int:=R.get (R.Pq (R.int u16) (R.int u8)) a.2.1 a.2.2.2.1
 let x2:=x1.1
 let x3:= !a.1&&decide (x2>=a.2.2.2.2.1.1)
 let x4:List (Int×Int):=a.2.2.2.2.2.1++[a.2.2.2.2.1]
 let x5:= !x3||(!a.2.2.2.2.1.2 !=0||Nat.ble (List.length x4) most)
 let x6:=x2 !=a.2.2.2.2.1.1
 let x7:List (Int×Int):=bif x3 then bif a.2.2.2.2.1.2 !=0 then x4 else a.2.2.2.2.2.1 else a.2.2.2.2.2.1
 let x8:List (Int×Int):=x7++[x1]
 .br (decide (a.2.2.2.1<a.2.2.1)) (.br (!Ze a.2.2.2.1 (List.length a.2.1)||(!x5||(!x6||Nat.ble (List.length x8) most))) (.br (!Ze a.2.2.2.1 (List.length a.2.1)||x5) (.br (Ze a.2.2.2.1 (List.length a.2.1)) (.Lf (some (Go1.cont (x3||a.1,a.2.1,a.2.2.1,i64.wrap (a.2.2.2.1+1),a.2.2.2.2.1,bif x6 then x8 else x7,PUnit.unit)))) (.Lf none)) (.Lf none)) (.Lf none)) (.Lf (some (Go1.brk (a.1,a.2.1,a.2.2.1,a.2.2.2.1,a.2.2.2.2.1,a.2.2.2.2.2.1,PUnit.unit))))
def Zyr:Ora:=ZcQ false ZIl Zyq (λa=>1000000000000)
theorem ZAJ:Zb6 (envX prog [] [] 511 8) (.block 0 (.loop (ZaU Tryz.f165.body 0))) Zyr:=
 loopP trivial
def Zyp (m:List (Int×Int)) (c:Int×Int):RT (Option (List (Int×Int))):=
 let x1:QT7:=(false,m,iN (List.length m),0,c,[],())
 let x2:=runF false Zyq (λa=>1000000000000) x1
 let x3:QT7:=(getO (false,x1) x2).2
 let x4:=x3.2.2.2.2
 let x5:=x4.1
 let x6:= !x3.1&&x5.2 !=0
 let x7:=x4.2.1
 let x8:List (Int×Int):=x7++[x5]
 .br (okB x2) (.br (!x6||Nat.ble (List.length x8) most) (.Lf (some (bif x6 then x8 else x7))) (.Lf none)) (.Lf none)
def ZIm (m:List (Int×Int)) (c:Int×Int):List (Int×Int):=getO [] (Zyp m c).val
def Zys (m:List (Int×Int)) (c:Int×Int):Bool:=okB (Zyp m c).val
def ZEj:En:=frzE (newE ZoE ZoF Zu4 (λa=>some (Zys a.1 a.2)) (λa=>ZIm a.1 a.2))
theorem ZEk:Zd prog 165 (newE ZoE ZoF Zu4 (λa=>some (Zys a.1 a.2)) (λa=>ZIm a.1 a.2)):=
 Zhj (P:=prog) (n:=511) (k:=8) (l:=[]) (ol:=[(0,Zyr)]) trivial Tryz.func165 rfl (by kernel_rfl) Tryz.call165 ⟨ZAJ,Tv⟩ (r:=ZoE) (T:=ZoF) (ts:=Zu4) (t:=λa=>Zyp a.1 a.2) (λa=>by kernel_rfl)
theorem Zyo:Zd prog 165 ZEj:=ZnB ZEk
abbrev Zjh:R:=R.Pq (R.int u16) (R.int u8)
abbrev Zji:Nat:=75
abbrev ZoM:List Sh:=[Sh.one rcCE]
def ZEE:LS:={n:=21,Sl:=[(3,.tip 0),(10,.code (Sh.one rcCE)),(11,.code (Sh.one (R.int i64))),(12,.code (Sh.one (R.int i64)))],Bx:=[],Sg:=[⟨(R.Pq (R.int u16) (R.int u8)),75,false⟩]}
def Ze4 (a:List (Int×Int)×Int×Int×List (Int×Int)×PUnit):RT (Option (Go1 (List (Int×Int)×Int×Int×List (Int×Int)×PUnit))):=
 .br (decide (a.2.2.1<a.2.1)) (.br (!Ze a.2.2.1 (List.length a.1)||Zys a.2.2.2.1 (R.get (R.Pq (R.int u16) (R.int u8)) a.1 a.2.2.1)) (.br (Ze a.2.2.1 (List.length a.1)) (.Lf (some (Go1.cont (a.1,a.2.1,i64.wrap (a.2.2.1+1),Stg.l (newG ZoE ZoF (ZIm a.2.2.2.1 (R.get (R.Pq (R.int u16) (R.int u8)) a.1 a.2.2.1))),PUnit.unit)))) (.Lf none)) (.Lf none)) (.Lf (some (Go1.brk (a.1,a.2.1,a.2.2.1,a.2.2.2.1,PUnit.unit))))
def Zr1:Ora:=ZcQ false ZEE Ze4 (λa=>1000000000000)
theorem Zvd:Zb6 (envX prog [(105,Zje),(165,ZEj)] [] 63 8) (.block 0 (.loop (ZaU Tryz.f93.body 0))) Zr1:=
 loopP ⟨ZhZ,Zyo,Tv⟩
def Zh2 (l:List (Int×Int)):RT (Option (List (Int×Int))):=
 let x1:=runF false Ze4 (λa=>1000000000000) (l,iN (List.length l),0,[],())
 .br (smC l) (.br (!vldB l||Nat.ble (List.length ([]++l)) most) (.br (vldB l) (.Lf (some ([]++l))) (.br (okB x1) (.Lf (some (getO (false,l,iN (List.length l),0,[],()) x1).2.2.2.2.1)) (.Lf none))) (.Lf none)) (.Lf none)
def Zr2 (l:List (Int×Int)):List (Int×Int):=getO [] (Zh2 l).val
def Zkg (l:List (Int×Int)):Bool:=okB (Zh2 l).val
def Zve:En:=frzE (newE Zjh Zji ZoM (λa=>some (Zkg a)) (λa=>Zr2 a))
theorem ZAM:Zd prog 93 (newE Zjh Zji ZoM (λa=>some (Zkg a)) (λa=>Zr2 a)):=
 Zhj (P:=prog) (n:=63) (k:=8) (l:=[(105,Zje),(165,ZEj)]) (ol:=[(0,Zr1)]) ⟨ZhZ,Zyo,Tv⟩ Tryz.func93 rfl (by kernel_rfl) Tryz.call93 ⟨Zvd,Tv⟩ (r:=Zjh) (T:=Zji) (ts:=ZoM) (t:=λa=>Zh2 a) (λa=>by kernel_rfl)
theorem Zr0:Zd prog 93 Zve:=ZnB ZAM
abbrev ZfB:R:=R.Pq (R.int u16) (R.int u8)
abbrev ZfC:Nat:=75
abbrev ZoY:List Sh:=[Sh.one (R.int u16),Sh.one (R.sl (R.int u8))]
def ZEL:LS:={n:=27,Sl:=[(0,.code (Sh.one (R.int u16))),(1,.code (Sh.one (R.sl (R.int u8)))),(5,.tip 0),(8,.code (Sh.one (R.int i64))),(9,.code (Sh.one (R.int i64)))],Bx:=[],Sg:=[⟨(R.Pq (R.int u16) (R.int u8)),75,true⟩]}
def Ze5 (a:QT23):RT (Option (Go1 (QT23))):=
 let x1:List (Int×Int):=a.2.2.2.2.1++[(u16.wrap (a.1+u16.wrap a.2.2.2.1),R.get (R.int u8) a.2.1 a.2.2.2.1)]
 let x2:= !Ze a.2.2.2.1 (List.length a.2.1)||Nat.ble (List.length x1) most
 .br (decide (a.2.2.2.1<a.2.2.1)) (.br (!x2||Ze a.2.2.2.1 (List.length a.2.1)) (.br (x2) (.Lf (some (Go1.cont (a.1,a.2.1,a.2.2.1,i64.wrap (a.2.2.2.1+1),x1,PUnit.unit)))) (.Lf none)) (.Lf none)) (.Lf (some (Go1.brk (a.1,a.2.1,a.2.2.1,a.2.2.2.1,a.2.2.2.2.1,PUnit.unit))))
def Zr3:Ora:=ZcQ false ZEL Ze5 (λa=>1000000000000)
theorem ZvS:Zb6 (envX prog [(93,Zve)] [] 127 8) (.block 0 (.loop (ZaU Tryz.f59.body 0))) Zr3:=
 loopP ⟨Zr0,Tv⟩
def ZkV (t:Int) (b:List Int):RT (Option (List (Int×Int))):=
 let x1:=runF false Ze5 (λa=>1000000000000) (t,b,iN (List.length b),0,[],())
 let x2:List (Int×Int):=(getO (false,t,b,iN (List.length b),0,[],()) x1).2.2.2.2.2.1
 .br (okB x1) (.br (Zkg x2) (.Lf (some (Stg.l (newG Zjh Zji (Zr2 x2))))) (.Lf none)) (.Lf none)
def ZEM (t:Int) (b:List Int):List (Int×Int):=getO [] (ZkV t b).val
def ZvT (t:Int) (b:List Int):Bool:=okB (ZkV t b).val
theorem ZAZ:Zd prog 59 (newE ZfB ZfC ZoY (λa=>some (ZvT a.1 a.2)) (λa=>ZEM a.1 a.2)):=
 Zhj (P:=prog) (n:=127) (k:=8) (l:=[(93,Zve)]) (ol:=[(0,Zr3)]) ⟨Zr0,Tv⟩ Tryz.func59 rfl (by kernel_rfl) Tryz.call59 ⟨ZvS,Tv⟩ (r:=ZfB) (T:=ZfC) (ts:=ZoY) (t:=λa=>ZkV a.1 a.2) (λa=>by kernel_rfl)
end
end Go.Proofs.YtpnjbfjomebppaaGreat
open Go Go.S3 Go.Proofs Go.Proofs.Cells
namespace Go.Proofs.YtpnjbfjomebppaaGreat
noncomputable section
theorem ZDW (m:List Cell) (c:Cell) (hv:Vld m) (hm:m.length+1<=most):Zys m c=true/\ZIm m c=putX m c:=by have h:=ZjT m c hv hm;have e:Zyp m c=Zm6 m c:=rfl;simp only[Zm7,ZAL,<-e] at h;exact h
theorem ZAs (l:List Cell) (hl:l.length+1<=most):Zkg l=true/\Zr2 l=normX l:=by
 have hms:=mst;have hs:smC l=true:=(Zri.2 hl:sm l=true);have hv:(Zh2 l).val=some (normX l):=by
  cases hb:vldB l with
  |true=>
   have e:Nat.ble l.length most=true:=by rw[YU];omega
   simp only[Zh2,RT.val,hs,hb,List.nil_append,e,Ya,Yf,Yk,Zno (Zxt.1 hb)]
  |false=>
   obtain⟨r,hr,h1,i,hR⟩:=Zat (fl:=false) (t:=Ze4) (fuel:=λa=>1000000000000)
    (λa=>∃i:Nat,i<=l.length/\a=(l,(l.length:Int),(i:Int),normX (l.take i),()))
    (λa=>Int.toNat (a.2.1-a.2.2.1)) (λr=>r.1=false/\∃i:Nat,r.2=(l,(l.length:Int),(i:Int),normX l,()))
    (by
     rintro a ⟨i,hi,rfl⟩;by_cases hlt:i<l.length
     ·left;have d:decide ((i:Int)<(l.length:Int))=true:=by simpa using hlt
      have r1:=ZdT l i hlt;have hlen:=Zdu (l.take i);rw[Y4] at hlen;have hp:=ZDW (normX (l.take i)) (el l i) (Zhh _) (by omega);refine⟨_,?_,⟨i+1,hlt,rfl⟩,by simp only;omega⟩;rw[Zuw l i hlt,Znn];simp only[Ze4,RT.val,d,r1,ZiN,hp.1,hp.2,Ya,Ye,Zub i (by omega)]
     ·right;left;have d:decide ((i:Int)<(l.length:Int))=false:=by simpa using hlt
      have e:l.take i=l:=YaB (by omega);rw[e]
      exact⟨_,by simp only[Ze4,RT.val,d,Yb],rfl,i,rfl⟩)
    (l,iN l.length,0,[],()) ⟨0,Yr _,rfl⟩ (by simp only[iN];omega)
   obtain⟨r1,r2⟩:=r;simp only at h1 hR;subst h1 hR;simp only[Zh2,RT.val,hs,hb,hr,okB,getO,Ya,Yb,Yl,Yt]
 exact⟨by simp only[Zkg,hv];rfl,by simp only[Zr2,hv,getO]⟩
theorem ZAt (t:Int) (b:List Int) (hb:b.length+1<=most):ZvT t b=true/\ZEM t b=Zmr t b:=by
 have hms:=mst;obtain⟨r,hr,h1,hR⟩:=Zat (fl:=false) (t:=Ze5) (fuel:=λa=>1000000000000)
  (λa=>∃i:Nat,i<=b.length/\a=(t,b,(b.length:Int),(i:Int),ZlN t b i,()))
  (λa=>Int.toNat (a.2.2.1-a.2.2.2.1)) (λr=>r.1=false/\r.2=(t,b,(b.length:Int),(b.length:Int),ZlN t b b.length,()))
  (by
   rintro a ⟨i,hi,rfl⟩;by_cases hlt:i<b.length
   ·left;have d:decide ((i:Int)<(b.length:Int))=true:=by simpa using hlt
    have r1:=ZdT b i hlt;have hl:∀x:Cell,Nat.ble (ZlN t b i++[x]).length most=true:=λx=>by rw[YU,Yh,ZlM];simp only[List.length_singleton];omega
    refine⟨_,?_,⟨i+1,hlt,rfl⟩,by simp only;omega⟩;rw[ZCa];have g:=get_d b i;simp only[Ze5,RT.val,d,r1,g,hl,Ya,Yf,Yk,Zub i (by omega)]
   ·right;left;have d:decide ((i:Int)<(b.length:Int))=false:=by simpa using hlt
    have e:i=b.length:=by omega
    subst e
    exact⟨_,by simp only[Ze5,RT.val,d,Yb],rfl,rfl⟩)
  (t,b,iN b.length,0,[],()) ⟨0,Yr _,rfl⟩ (by simp only[iN];omega)
 obtain⟨r1,r2⟩:=r;simp only at h1 hR;subst h1 hR;have hn:=ZAs (ZlN t b b.length) (by rw[ZlM];exact hb);have hv:(ZkV t b).val=some (Zmr t b):=by simp only[ZkV,RT.val,hr,okB,getO,Ya,hn.1,hn.2,Zmr]
 exact⟨by simp only[ZvT,hv];rfl,by simp only[ZEM,hv,getO]⟩
def ZoZ:En:=frzE (newE ZfB ZfC ZoY (λa=>some (smB a.2)) (λa=>Zmr a.1 a.2))
theorem Znb:Zd Tryz.prog 59 ZoZ:=ZnB (ZBY ZAZ λa _ h=>by
 have hb:smB a.2=true:=by cases hq:smB a.2 with
  |true=>rfl
  |false=>rw[hq] at h;exact absurd rfl h
 obtain⟨h1,h2⟩:=ZAt a.1 a.2 (Zri.1 hb)
 exact⟨by rw[h1];simp,h2⟩)
abbrev ZwD:R:=R.Pq (R.sl (R.int i64)) (R.int i64)
abbrev ZF4:List Sh:=[]
abbrev ZwC:Rs:=Rs.one (Sh.one R.bool)
def Zzt (s:List Int×Int):RT (Option (Bool×List Int×Int)):=
 .br (Zj s 2) (.Lf (some (((Zb s 2).1==1,(Zb s 2).2)))) (.Lf none)
def Z6 (s:List Int×Int):Bool×List Int×Int:=getO (ZwC.Df,ZwD.Df) (Zzt s).val
def ZaS (s:List Int×Int):Bool:=okB (Zzt s).val
def Zzu:En:=boxE ZwD ZF4 ZwC (λa=>some (ZaS a.1)) (λa=>Z6 a.1)
theorem Zqa:Zd prog 69 Zzu:=
 ZbU (P:=prog) (n:=7) (k:=8) (l:=[(68,ZbL)]) (ol:=[]) ⟨Zau,Tv⟩ Tryz.func69 rfl (by kernel_rfl) Tryz.call69 trivial (rb:=ZwD) (ts:=ZF4) (rs:=ZwC) (t:=λa=>Zzt a.1) (λa=>by kernel_rfl)
abbrev Zeb:R:=R.Pq (R.int u16) (R.Pq (R.int u16) (R.Pq R.bool (R.int i64)))
abbrev Zec:Nat:=110
abbrev ZfL:R:=R.Pq (R.sl (R.int i64)) (R.int i64)
abbrev Zie:List Sh:=[Sh.one (R.int i64)]
def Zwx:LS:={n:=44,Sl:=[(0,.fix (A.loc 0 0)),(5,.tip 0),(6,.code (Sh.one (R.int i64)))],Bx:=[[.many (R.Pq (R.sl (R.int i64)) (R.int i64))]],Sg:=[⟨(R.Pq (R.int u16) (R.Pq (R.int u16) (R.Pq R.bool (R.int i64)))),110,false⟩]}
def Zdw (a:QT14):RT (Option (Go1 (QT14))):=
 let x1:= !Zj (Zbg a.2.1).2 6||Ze (Zb (Zbg a.2.1).2 6).1 (List.length [0,3,15,255,4095,65535])
 let x2:= !x1
 let x3:= !Zj (Zb (Zb (Zbg a.2.1).2 6).2 3).2 5
 let x4:Int:=(Zb (Zb (Zb (Zbg a.2.1).2 6).2 3).2 5).1
 let x5:=Ze x4 (List.length [0,0,1,2,5])
 let x6:=i64.wrap (i64.wrap (Zbg a.2.1).1+R.get (R.int i64) [0,3,15,255,4095,65535] (Zb (Zbg a.2.1).2 6).1)
 let x7:List (QT9):=a.2.2.1++[((Zbg a.2.1).1,u16.wrap (if 65535<x6 then 65535 else x6),decide ((Zb (Zb (Zbg a.2.1).2 6).2 3).1>0),R.get (R.int i64) [0,0,1,2,5] x4)]
 let x8:= !Zj (Zb (Zbg a.2.1).2 6).2 3||(x3||(!x5||Nat.ble (List.length x7) most))
 let x9:= !x8
 let x10:= !Zj (Zb (Zbg a.2.1).2 6).2 3||(x3||x5)
 let x11:= !x10
 let x12:= !Zj (Zb (Zbg a.2.1).2 6).2 3||Zj (Zb (Zb (Zbg a.2.1).2 6).2 3).2 5
 .br (decide (a.1>0)) (.br (!Zea a.2.1||(x2||(!Zj (Zbg a.2.1).2 6||(x9||(x11||(!x12||Zj (Zb (Zbg a.2.1).2 6).2 3)))))) (.br (!Zea a.2.1||(x2||(!Zj (Zbg a.2.1).2 6||(x9||(x11||x12))))) (.br (!Zea a.2.1||(x2||(!Zj (Zbg a.2.1).2 6||(x9||x10)))) (.br (!Zea a.2.1||(x2||(!Zj (Zbg a.2.1).2 6||x8))) (.br (!Zea a.2.1||(x2||Zj (Zbg a.2.1).2 6)) (.br (!Zea a.2.1||x1) (.br (Zea a.2.1) (.Lf (some (Go1.cont (i64.wrap (a.1-1),(Zb (Zb (Zb (Zbg a.2.1).2 6).2 3).2 5).2,x7,PUnit.unit)))) (.Lf none)) (.Lf none)) (.Lf none)) (.Lf none)) (.Lf none)) (.Lf none)) (.Lf none)) (.Lf (some (Go1.brk (a.1,a.2.1,a.2.2.1,PUnit.unit))))
def Zlm:Ora:=ZcQ false Zwx Zdw (λa=>400)
theorem Zp6:Zb6 (envX prog [(68,ZbL),(70,Zs1)] [] 511 8) (.block 0 (.loop (ZaU Tryz.f188.body 0))) Zlm:=
 loopP ⟨Zau,Zjq,Tv⟩
def Zfc (s:List Int×Int) (n:Int):RT (Option (List (QT9)×List Int×Int)):=
 let x1:QT14:=((Zb s (i64.wrap (n+1))).1,(Zb s (i64.wrap (n+1))).2,[],())
 let x2:=runF false Zdw (λa=>400) x1
 let x3:(List Int×Int)×List (QT9)×PUnit:=(getO (false,x1) x2).2.2
 .br (Zj s (i64.wrap (n+1))) (.br (okB x2) (.Lf (some ((x3.2.1,x3.1)))) (.Lf none)) (.Lf none)
def ZaZ (s:List Int×Int) (n:Int):List (QT9)×List Int×Int:=getO ([],ZfL.Df) (Zfc s n).val
def ZcK (s:List Int×Int) (n:Int):Bool:=okB (Zfc s n).val
def Zs3:En:=frzE (ZB0 ZfL Zeb Zec Zie (λa=>some (ZcK a.1 a.2)) (λa=>ZaZ a.1 a.2))
theorem Zs4:Zd prog 188 (ZB0 ZfL Zeb Zec Zie (λa=>some (ZcK a.1 a.2)) (λa=>ZaZ a.1 a.2)):=
 ZFV (P:=prog) (n:=511) (k:=8) (l:=[(68,ZbL),(70,Zs1)]) (ol:=[(0,Zlm)]) ⟨Zau,Zjq,Tv⟩ Tryz.func188 rfl (by kernel_rfl) Tryz.call188 ⟨Zp6,Tv⟩ (rb:=ZfL) (r:=Zeb) (T:=Zec) (ts:=Zie) (t:=λa=>Zfc a.1 a.2) (λa=>by kernel_rfl)
theorem Zwv:Zd prog 188 Zs3:=ZnB Zs4
abbrev ZF2:R:=R.Pq (R.sl (R.int i64)) (R.int i64)
abbrev ZKM:List Sh:=[]
abbrev ZF1:Rs:=Rs.one (Sh.one rcRG)
def ZF0 (s:List Int×Int):RT (Option (List (QT9)×List Int×Int)):=
 let x1:List (QT9):=Stg.l (newG Zeb Zec (ZaZ s 2).1)++[(0,65535,true,i64.wrap (Int.tdiv (Zb (ZaZ s 2).2 3).1 2))]
 .br (!ZcK s 2||(!Zj (ZaZ s 2).2 3||Nat.ble (List.length x1) most)) (.br (!ZcK s 2||Zj (ZaZ s 2).2 3) (.br (ZcK s 2) (.Lf (some ((x1,(Zb (ZaZ s 2).2 3).2)))) (.Lf none)) (.Lf none)) (.Lf none)
def nMap (s:List Int×Int):List (QT9)×List Int×Int:=getO (ZF1.Df,ZF2.Df) (ZF0 s).val
def ZB2 (s:List Int×Int):Bool:=okB (ZF0 s).val
def ZMs:En:=boxE ZF2 ZKM ZF1 (λa=>some (ZB2 a.1)) (λa=>nMap a.1)
theorem ZFY:Zd prog 123 ZMs:=
 ZbU (P:=prog) (n:=7) (k:=8) (l:=[(68,ZbL),(188,Zs3)]) (ol:=[]) ⟨Zau,Zwv,Tv⟩ Tryz.func123 rfl (by kernel_rfl) Tryz.call123 trivial (rb:=ZF2) (ts:=ZKM) (rs:=ZF1) (t:=λa=>ZF0 a.1) (λa=>by kernel_rfl)
abbrev Zig:R:=R.Pq (R.sl (R.int i64)) (R.int i64)
abbrev Znq:List Sh:=[Sh.one (R.int i64)]
abbrev Zif:Rs:=Rs.one (Sh.one (R.sl (R.int u8)))
def Zwz:LS:={n:=75,Sl:=[(0,.fix (A.loc 0 0)),(5,.tip 0),(6,.code (Sh.one (R.int i64)))],Bx:=[[.many (R.Pq (R.sl (R.int i64)) (R.int i64))]],Sg:=[⟨(R.int u8),5,true⟩]}
def Zcn (a:QT20):RT (Option (Go1 (QT20))):=
 let x1:=Ze (Zb (Zb a.2.1 8).2 4).1 (List.length [33,49,1,17])
 let x2:= !x1
 let x3:=Zj (Zb (Zb (Zb a.2.1 8).2 4).2 256).2 4
 let x4:= !x3
 let x5:=Zb (Zb (Zb (Zb a.2.1 8).2 4).2 256).2 4
 let x6:=x5.1
 let x7:=Ze x6 (List.length [0,0,1,255])
 let x8:List Int:=a.2.2.1++[R.get (R.int u8) [33,49,1,17] (Zb (Zb a.2.1 8).2 4).1,u8.wrap (Zb (Zb (Zb a.2.1 8).2 4).2 256).1,R.get (R.int u8) [0,0,1,255] x6]
 let x9:= !(Zb a.2.1 8).1==0||(!Zj (Zb a.2.1 8).2 4||(x2||(!Zj (Zb (Zb a.2.1 8).2 4).2 256||(x4||(!x7||Nat.ble (List.length x8) most)))))
 let x10:= !x9
 let x11:= !(Zb a.2.1 8).1==0||(!Zj (Zb a.2.1 8).2 4||(x2||(!Zj (Zb (Zb a.2.1 8).2 4).2 256||(x4||x7))))
 let x12:= !x11
 let x13:= !(Zb a.2.1 8).1==0||(!Zj (Zb a.2.1 8).2 4||(x2||(!Zj (Zb (Zb a.2.1 8).2 4).2 256||x3)))
 let x14:= !x13
 let x15:= !(Zb a.2.1 8).1==0||(!Zj (Zb a.2.1 8).2 4||(x2||Zj (Zb (Zb a.2.1 8).2 4).2 256))
 let x16:= !x15
 let x17:= !(Zb a.2.1 8).1==0||(!Zj (Zb a.2.1 8).2 4||x1)
 let x18:= !x17
 let x19:= !(Zb a.2.1 8).1==0||Zj (Zb a.2.1 8).2 4
 let x20:= !x19
 let x21:List Int:=a.2.2.1++[62,(Zcb (Zb a.2.1 8).2).1,211,u8.wrap (Zb (Zcb (Zb a.2.1 8).2).2 8).1]
 let x22:=(Zb a.2.1 8).1==0||(!(Zb a.2.1 8).1==1||(!ZeM (Zb a.2.1 8).2||(!Zj (Zcb (Zb a.2.1 8).2).2 8||Nat.ble (List.length x21) most)))
 let x23:= !x22
 let x24:=(Zb a.2.1 8).1==0||(!(Zb a.2.1 8).1==1||(!ZeM (Zb a.2.1 8).2||Zj (Zcb (Zb a.2.1 8).2).2 8))
 let x25:= !x24
 let x26:=(Zb a.2.1 8).1==0||(!(Zb a.2.1 8).1==1||ZeM (Zb a.2.1 8).2)
 let x27:= !x26
 let x28:=(Zb a.2.1 8).1==0||((Zb a.2.1 8).1==1||(!(Zb a.2.1 8).1==2||Nat.ble (List.length (a.2.2.1++[251])) most))
 let x29:= !x28
 let x30:List Int:=a.2.2.1++[62,u8.wrap (i64.wrap (16+(Zb (Zb a.2.1 8).2 16).1)),211,0,62,(Zcb (Zb (Zb a.2.1 8).2 16).2).1,211,1,62,0,211,1]
 let x31:=(Zb a.2.1 8).1==0||((Zb a.2.1 8).1==1||((Zb a.2.1 8).1==2||(!(Zb a.2.1 8).1==3||(!Zj (Zb a.2.1 8).2 16||(!ZeM (Zb (Zb a.2.1 8).2 16).2||Nat.ble (List.length x30) most)))))
 let x32:= !x31
 let x33:=(Zb a.2.1 8).1==0||((Zb a.2.1 8).1==1||((Zb a.2.1 8).1==2||(!(Zb a.2.1 8).1==3||(!Zj (Zb a.2.1 8).2 16||ZeM (Zb (Zb a.2.1 8).2 16).2))))
 let x34:= !x33
 let x35:=(Zb a.2.1 8).1==0||((Zb a.2.1 8).1==1||((Zb a.2.1 8).1==2||(!(Zb a.2.1 8).1==3||Zj (Zb a.2.1 8).2 16)))
 let x36:= !x35
 let x37:= !Zj (Zb (Zac (Zb a.2.1 8).2).2 64).2 4
 let x38:Int:=(Zb (Zb (Zac (Zb a.2.1 8).2).2 64).2 4).1
 let x39:=Ze x38 (List.length [0,0,1,255])
 let x40:List Int:=a.2.2.1++[(Zac (Zb a.2.1 8).2).1,u8.wrap (Zb (Zac (Zb a.2.1 8).2).2 64).1,R.get (R.int u8) [0,0,1,255] x38]
 let x41:=(Zb a.2.1 8).1==0||((Zb a.2.1 8).1==1||((Zb a.2.1 8).1==2||((Zb a.2.1 8).1==3||(!Zbz (Zb a.2.1 8).2||(!Zj (Zac (Zb a.2.1 8).2).2 64||(x37||(!x39||Nat.ble (List.length x40) most)))))))
 let x42:= !x41
 let x43:=(Zb a.2.1 8).1==0||((Zb a.2.1 8).1==1||((Zb a.2.1 8).1==2||((Zb a.2.1 8).1==3||(!Zbz (Zb a.2.1 8).2||(!Zj (Zac (Zb a.2.1 8).2).2 64||(x37||x39))))))
 let x44:= !x43
 let x45:=(Zb a.2.1 8).1==0||((Zb a.2.1 8).1==1||((Zb a.2.1 8).1==2||((Zb a.2.1 8).1==3||(!Zbz (Zb a.2.1 8).2||(!Zj (Zac (Zb a.2.1 8).2).2 64||Zj (Zb (Zac (Zb a.2.1 8).2).2 64).2 4)))))
 let x46:= !x45
 let x47:=(Zb a.2.1 8).1==0||((Zb a.2.1 8).1==1||((Zb a.2.1 8).1==2||((Zb a.2.1 8).1==3||(!Zbz (Zb a.2.1 8).2||Zj (Zac (Zb a.2.1 8).2).2 64))))
 let x48:=x10||(x12||(x14||(x16||(x18||(x20||(x23||(x25||(x27||(x29||(x32||(x34||(x36||(x42||(x44||(x46||(!x47||((Zb a.2.1 8).1==0||((Zb a.2.1 8).1==1||((Zb a.2.1 8).1==2||((Zb a.2.1 8).1==3||Zbz (Zb a.2.1 8).2))))))))))))))))))))
 let x49:= !x48
 let x50:=x10||(x12||(x14||(x16||(x18||(x20||(x23||(x25||(x27||(x29||(x32||(x34||(x36||(x42||(x44||(x46||x47)))))))))))))))
 let x51:= !x50
 let x52:=x10||(x12||(x14||(x16||(x18||(x20||(x23||(x25||(x27||(x29||(x32||(x34||(x36||(x42||(x44||x45))))))))))))))
 let x53:= !x52
 let x54:=x10||(x12||(x14||(x16||(x18||(x20||(x23||(x25||(x27||(x29||(x32||(x34||(x36||(x42||x43)))))))))))))
 let x55:= !x54
 let x56:=x10||(x12||(x14||(x16||(x18||(x20||(x23||(x25||(x27||(x29||(x32||(x34||(x36||x41))))))))))))
 let x57:= !x56
 let x58:=x10||(x12||(x14||(x16||(x18||(x20||(x23||(x25||(x27||(x29||(x32||(x34||x35)))))))))))
 let x59:= !x58
 let x60:=x10||(x12||(x14||(x16||(x18||(x20||(x23||(x25||(x27||(x29||(x32||x33))))))))))
 let x61:= !x60
 let x62:=x10||(x12||(x14||(x16||(x18||(x20||(x23||(x25||(x27||(x29||x31)))))))))
 let x63:= !x62
 let x64:=x10||(x12||(x14||(x16||(x18||(x20||(x23||(x25||(x27||x28))))))))
 let x65:= !x64
 let x66:=x10||(x12||(x14||(x16||(x18||(x20||(x23||(x25||x26)))))))
 let x67:= !x66
 let x68:=x10||(x12||(x14||(x16||(x18||(x20||(x23||x24))))))
 let x69:= !x68
 let x70:=x10||(x12||(x14||(x16||(x18||(x20||x22)))))
 let x71:= !x70
 let x72:=x10||(x12||(x14||(x16||(x18||x19))))
 let x73:= !x72
 let x74:=x10||(x12||(x14||(x16||x17)))
 let x75:= !x74
 let x76:=x10||(x12||(x14||x15))
 let x77:= !x76
 let x78:=x10||(x12||x13)
 let x79:= !x78
 let x80:=x10||x11
 let x81:List Int×Int:=(Zb (Zb (Zac (Zb a.2.1 8).2).2 64).2 4).2
 .br (decide (a.1>0)) (.br (!Zj a.2.1 8||(x49||(x51||(x53||(x55||(x57||(x59||(x61||(x63||(x65||(x67||(x69||(x71||(x73||(x75||(x77||(x79||(!x80||x9)))))))))))))))))) (.br (!Zj a.2.1 8||(x49||(x51||(x53||(x55||(x57||(x59||(x61||(x63||(x65||(x67||(x69||(x71||(x73||(x75||(x77||(x79||x80))))))))))))))))) (.br (!Zj a.2.1 8||(x49||(x51||(x53||(x55||(x57||(x59||(x61||(x63||(x65||(x67||(x69||(x71||(x73||(x75||(x77||x78)))))))))))))))) (.br (!Zj a.2.1 8||(x49||(x51||(x53||(x55||(x57||(x59||(x61||(x63||(x65||(x67||(x69||(x71||(x73||(x75||x76))))))))))))))) (.br (!Zj a.2.1 8||(x49||(x51||(x53||(x55||(x57||(x59||(x61||(x63||(x65||(x67||(x69||(x71||(x73||x74)))))))))))))) (.br (!Zj a.2.1 8||(x49||(x51||(x53||(x55||(x57||(x59||(x61||(x63||(x65||(x67||(x69||(x71||x72))))))))))))) (.br (!Zj a.2.1 8||(x49||(x51||(x53||(x55||(x57||(x59||(x61||(x63||(x65||(x67||(x69||x70)))))))))))) (.br (!Zj a.2.1 8||(x49||(x51||(x53||(x55||(x57||(x59||(x61||(x63||(x65||(x67||x68))))))))))) (.br (!Zj a.2.1 8||(x49||(x51||(x53||(x55||(x57||(x59||(x61||(x63||(x65||x66)))))))))) (.br (!Zj a.2.1 8||(x49||(x51||(x53||(x55||(x57||(x59||(x61||(x63||x64))))))))) (.br (!Zj a.2.1 8||(x49||(x51||(x53||(x55||(x57||(x59||(x61||x62)))))))) (.br (!Zj a.2.1 8||(x49||(x51||(x53||(x55||(x57||(x59||x60))))))) (.br (!Zj a.2.1 8||(x49||(x51||(x53||(x55||(x57||x58)))))) (.br (!Zj a.2.1 8||(x49||(x51||(x53||(x55||x56))))) (.br (!Zj a.2.1 8||(x49||(x51||(x53||x54)))) (.br (!Zj a.2.1 8||(x49||(x51||x52))) (.br (!Zj a.2.1 8||(x49||x50)) (.br (!Zj a.2.1 8||x48) (.br (Zj a.2.1 8) (.br ((Zb a.2.1 8).1==0) (.Lf (some (Go1.cont (i64.wrap (a.1-1),x5.2,x8,PUnit.unit)))) (.br ((Zb a.2.1 8).1==1) (.Lf (some (Go1.cont (i64.wrap (a.1-1),(Zb (Zcb (Zb a.2.1 8).2).2 8).2,x21,PUnit.unit)))) (.br ((Zb a.2.1 8).1==2) (.Lf (some (Go1.cont (i64.wrap (a.1-1),(Zb a.2.1 8).2,a.2.2.1++[251],PUnit.unit)))) (.Lf (some (Go1.cont (i64.wrap (a.1-1),(bif (Zb a.2.1 8).1==3 then (Zcb (Zb (Zb a.2.1 8).2 16).2).2.1 else x81.1,bif (Zb a.2.1 8).1==3 then (Zcb (Zb (Zb a.2.1 8).2 16).2).2.2 else x81.2),bif (Zb a.2.1 8).1==3 then x30 else x40,PUnit.unit))))))) (.Lf none)) (.Lf none)) (.Lf none)) (.Lf none)) (.Lf none)) (.Lf none)) (.Lf none)) (.Lf none)) (.Lf none)) (.Lf none)) (.Lf none)) (.Lf none)) (.Lf none)) (.Lf none)) (.Lf none)) (.Lf none)) (.Lf none)) (.Lf none)) (.Lf none)) (.Lf (some (Go1.brk (a.1,a.2.1,a.2.2.1,PUnit.unit))))
def Zlo:Ora:=ZcQ false Zwz Zcn (λa=>400)
theorem Zp7:Zb6 (envX prog [(68,ZbL),(71,ZlA),(119,ZfM)] [] 9511883889056940159 8) (.block 0 (.loop (ZaU Tryz.f124.body 0))) Zlo:=
 loopP ⟨Zau,ZfO,Zed,Tv⟩
def Zfd (s:List Int×Int) (n:Int):RT (Option (List Int×List Int×Int)):=
 let x1:QT20:=((Zb s (i64.wrap (n+1))).1,(Zb s (i64.wrap (n+1))).2,[],())
 let x2:=runF false Zcn (λa=>400) x1
 let x3:(List Int×Int)×List Int×PUnit:=(getO (false,x1) x2).2.2
 .br (Zj s (i64.wrap (n+1))) (.br (okB x2) (.Lf (some ((x3.2.1,x3.1)))) (.Lf none)) (.Lf none)
def Zby (s:List Int×Int) (n:Int):List Int×List Int×Int:=getO (Zif.Df,Zig.Df) (Zfd s n).val
def Zfe (s:List Int×Int) (n:Int):Bool:=okB (Zfd s n).val
def Zlp:En:=boxE Zig Znq Zif (λa=>some (Zfe a.1 a.2)) (λa=>Zby a.1 a.2)
theorem Zln:Zd prog 124 Zlp:=
 ZbU (P:=prog) (n:=9511883889056940159) (k:=8) (l:=[(68,ZbL),(71,ZlA),(119,ZfM)]) (ol:=[(0,Zlo)]) ⟨Zau,ZfO,Zed,Tv⟩ Tryz.func124 rfl (by kernel_rfl) Tryz.call124 ⟨Zp7,Tv⟩ (rb:=Zig) (ts:=Znq) (rs:=Zif) (t:=λa=>Zfd a.1 a.2) (λa=>by kernel_rfl)
abbrev Zqc:R:=R.Pq (R.sl (R.int i64)) (R.int i64)
abbrev Zzw:List Sh:=[]
abbrev Zqb:Rs:=Rs.one (Sh.agg (R.Pq (R.int i64) (R.Pq rcRG (R.Pq (R.int i64) (R.Pq (R.int u8) (R.Pq (R.int u8) (R.Pq R.bool rcCE)))))))
def ZF9:LS:={n:=50,Sl:=[(0,.fix (A.loc 0 0)),(2,.fix (A.loc 1 0)),(3,.fix (A.loc 2 0)),(4,.tip 0),(5,.code (Sh.one (R.int i64)))],Bx:=[[.many (R.Pq (R.sl (R.int i64)) (R.int i64))],[.many (R.Pq (R.int i64) (R.Pq rcRG (R.Pq (R.int i64) (R.Pq (R.int u8) (R.Pq (R.int u8) (R.Pq R.bool rcCE))))))],[.many (R.Pq (R.int i64) (R.Pq rcRG (R.Pq (R.int i64) (R.Pq (R.int u8) (R.Pq (R.int u8) (R.Pq R.bool rcCE))))))]],Sg:=[⟨R.Pq (R.int u16) (R.int u8),75,true⟩]}
def Zef (a:QT13):RT (Option (Go1 (QT13))):=
 let x1:=Ze (Zb a.2.1 6).1 (List.length [36,60,52,44,56,32])
 let x2:= !x1
 let x3:List Int:=[(Zac (Zb a.2.1 6).2).1,251,201]
 let x4:=smB x3
 let x5:List (Int×Int):=a.2.2.2.2.1++Stg.l (newG ZfB ZfC (Zmr (u16.wrap (R.get (R.int i64) [36,60,52,44,56,32] (Zb a.2.1 6).1)) x3))
 let x6:= !Zj a.2.1 6||(x2||(!Zbz (Zb a.2.1 6).2||(!x4||Nat.ble (List.length x5) most)))
 let x7:= !x6
 let x8:= !Zj a.2.1 6||(x2||(!Zbz (Zb a.2.1 6).2||x4))
 let x9:= !x8
 let x10:= !Zj a.2.1 6||(x2||Zbz (Zb a.2.1 6).2)
 let x11:= !x10
 let x12:= !Zj a.2.1 6||x1
 .br (decide (a.1>0)) (.br (x7||(x9||(x11||(!x12||Zj a.2.1 6)))) (.br (x7||(x9||(x11||x12))) (.br (x7||(x9||x10)) (.br (x7||x8) (.br (x6) (.Lf (some (Go1.cont (i64.wrap (a.1-1),(Zac (Zb a.2.1 6).2).2,a.2.2.1,a.2.2.2.1,x5,PUnit.unit)))) (.Lf none)) (.Lf none)) (.Lf none)) (.Lf none)) (.Lf none)) (.Lf (some (Go1.brk (a.1,a.2.1,a.2.2.1,a.2.2.2.1,a.2.2.2.2.1,PUnit.unit))))
def Zta:Ora:=ZcQ false ZF9 Zef (λa=>400)
theorem ZwI:Zb6 (envX prog [(59,ZoZ),(68,ZbL),(71,ZlA),(93,ZoN),(119,ZfM),(122,ZF6),(123,ZMs),(124,Zlp)] [] 63 8) (.block 0 (.loop (ZaU Tryz.f66.body 0))) Zta:=
 loopP ⟨Znb,Zau,ZfO,Zkh,Zed,Zzv,ZFY,Zln,Tv⟩
def ZlB (s:List Int×Int):RT (Option (BRDT×List Int×Int)):=
 let x1:=(Zb (Zb (Zb (nMap (ZaJ s).2).2 3).2 4).2 6).1==0
 let x2:= !x1
 let x3:List Int×Int:=(Zb (Zb (Zb (nMap (ZaJ s).2).2 3).2 4).2 6).2
 let x4:=ZeM x3
 let x5:=Zcb x3
 let x6:=x5.2
 let x7:=Zcb x6
 let x8:=x7.2
 let x9:List Int×Int:=(bif x1 then x8.1 else x3.1,bif x1 then x8.2 else x3.2)
 let x10:=Zfe x9 12
 let x11:=Zby x9 12
 let x12:=x11.1
 let x13:=x11.2
 let x14:=Zb x13 4
 let x15:QT13:=(x14.1,x14.2,(0,[],0,0,0,false,[]),((ZaJ s).1,(nMap (ZaJ s).2).1,(Zb (nMap (ZaJ s).2).2 3).1,bif x1 then x5.1 else 0,bif x1 then x7.1 else 4,(Zb (Zb (nMap (ZaJ s).2).2 3).2 4).1==0,[]),Stg.l (newG ZfB ZfC (Zmr 0 x12)),())
 let x16:=runF false Zef (λa=>400) x15
 let x17:(List Int×Int)×BRDT×BRDT×List (Int×Int)×PUnit:=(getO (false,x15) x16).2.2
 let x18:=x17.2.2
 let x19:=x18.2.1
 let x20:=x18.1
 let x21:=x20.2
 let x22:=x21.2
 let x23:=x22.2
 let x24:=x23.2
 .br (!Zly s||(!ZB2 (ZaJ s).2||(!Zj (nMap (ZaJ s).2).2 3||Zj (Zb (nMap (ZaJ s).2).2 3).2 4))) (.br (!Zly s||(!ZB2 (ZaJ s).2||Zj (nMap (ZaJ s).2).2 3)) (.br (!Zly s||ZB2 (ZaJ s).2) (.br (Zly s) (.br (Zj (Zb (Zb (nMap (ZaJ s).2).2 3).2 4).2 6) (.br (x2||(!x4||ZeM x6)) (.br (x2||x4) (.br (!x10||smB x12) (.br (x10) (.br (Zj x13 4) (.br (okB x16) (.br (smC x19) (.Lf (some (((x20.1,x21.1,x22.1,x23.1,x24.1,x24.2.1,Cells.normX x19),x17.1)))) (.Lf none)) (.Lf none)) (.Lf none)) (.Lf none)) (.Lf none)) (.Lf none)) (.Lf none)) (.Lf none)) (.Lf none)) (.Lf none)) (.Lf none)) (.Lf none)
def ZF (s:List Int×Int):BRDT×List Int×Int:=getO (Zqb.Df,Zqc.Df) (ZlB s).val
def Zii (s:List Int×Int):Bool:=okB (ZlB s).val
def ZGa:En:=boxE Zqc Zzw Zqb (λa=>some (Zii a.1)) (λa=>ZF a.1)
theorem ZF8:Zd prog 66 ZGa:=
 ZbU (P:=prog) (n:=63) (k:=8) (l:=[(59,ZoZ),(68,ZbL),(71,ZlA),(93,ZoN),(119,ZfM),(122,ZF6),(123,ZMs),(124,Zlp)]) (ol:=[(0,Zta)]) ⟨Znb,Zau,ZfO,Zkh,Zed,Zzv,ZFY,Zln,Tv⟩ Tryz.func66 rfl (by kernel_rfl) Tryz.call66 ⟨ZwI,Tv⟩ (rb:=Zqc) (ts:=Zzw) (rs:=Zqb) (t:=λa=>ZlB a.1) (λa=>by kernel_rfl)
abbrev Zp9:R:=R.Pq (R.sl (R.int i64)) (R.int i64)
abbrev Zzs:List Sh:=[]
abbrev Zp8:Rs:=Rs.one (Sh.agg ZcP)
def Zlw (s:List Int×Int):RT (Option (INPT×List Int×Int)):=
 let x1:=decide ((Zb s 64).1<30)||(decide ((Zb s 64).1<36)||(decide ((Zb s 64).1<40)||(!decide ((Zb s 64).1<46)||Zj (Zb s 64).2 256)))
 let x2:= !x1
 let x3:=decide ((Zb s 64).1<30)||(decide ((Zb s 64).1<36)||(decide ((Zb s 64).1<40)||(decide ((Zb s 64).1<46)||(decide ((Zb s 64).1<50)||(decide ((Zb s 64).1<53)||(decide ((Zb s 64).1<55)||((Zb s 64).1==55||(!decide ((Zb s 64).1<60)||Zbz (Zb s 64).2))))))))
 let x4:= !x3
 let x5:= !ZaS (Z6 (Z6 (Z6 (Z6 (Zb s 64).2).2).2).2).2
 let x6:List Int×Int:=(Z6 (Z6 (Z6 (Z6 (Z6 (Zb s 64).2).2).2).2).2).2
 let x7:=Zj x6 256
 let x8:=Zb x6 256
 let x9:=x8.2
 let x10:=decide ((Zb s 64).1<30)||(decide ((Zb s 64).1<36)||(decide ((Zb s 64).1<40)||(decide ((Zb s 64).1<46)||(decide ((Zb s 64).1<50)||(decide ((Zb s 64).1<53)||(decide ((Zb s 64).1<55)||((Zb s 64).1==55||(decide ((Zb s 64).1<60)||(!ZaS (Zb s 64).2||(!ZaS (Z6 (Zb s 64).2).2||(!ZaS (Z6 (Z6 (Zb s 64).2).2).2||(!ZaS (Z6 (Z6 (Z6 (Zb s 64).2).2).2).2||(x5||(!x7||Zj x9 256))))))))))))))
 let x11:= !x10
 let x12:=decide ((Zb s 64).1<30)||(decide ((Zb s 64).1<36)||(decide ((Zb s 64).1<40)||(decide ((Zb s 64).1<46)||(decide ((Zb s 64).1<50)||(decide ((Zb s 64).1<53)||(decide ((Zb s 64).1<55)||((Zb s 64).1==55||(decide ((Zb s 64).1<60)||(!ZaS (Zb s 64).2||(!ZaS (Z6 (Zb s 64).2).2||(!ZaS (Z6 (Z6 (Zb s 64).2).2).2||(!ZaS (Z6 (Z6 (Z6 (Zb s 64).2).2).2).2||(x5||x7)))))))))))))
 let x13:= !x12
 let x14:=decide ((Zb s 64).1<30)||(decide ((Zb s 64).1<36)||(decide ((Zb s 64).1<40)||(decide ((Zb s 64).1<46)||(decide ((Zb s 64).1<50)||(decide ((Zb s 64).1<53)||(decide ((Zb s 64).1<55)||((Zb s 64).1==55||(decide ((Zb s 64).1<60)||(!ZaS (Zb s 64).2||(!ZaS (Z6 (Zb s 64).2).2||(!ZaS (Z6 (Z6 (Zb s 64).2).2).2||(!ZaS (Z6 (Z6 (Z6 (Zb s 64).2).2).2).2||ZaS (Z6 (Z6 (Z6 (Z6 (Zb s 64).2).2).2).2).2))))))))))))
 let x15:= !x14
 let x16:=decide ((Zb s 64).1<30)||(decide ((Zb s 64).1<36)||(decide ((Zb s 64).1<40)||(decide ((Zb s 64).1<46)||(decide ((Zb s 64).1<50)||(decide ((Zb s 64).1<53)||(decide ((Zb s 64).1<55)||((Zb s 64).1==55||(decide ((Zb s 64).1<60)||(!ZaS (Zb s 64).2||(!ZaS (Z6 (Zb s 64).2).2||(!ZaS (Z6 (Z6 (Zb s 64).2).2).2||ZaS (Z6 (Z6 (Z6 (Zb s 64).2).2).2).2)))))))))))
 let x17:= !x16
 let x18:=decide ((Zb s 64).1<30)||(decide ((Zb s 64).1<36)||(decide ((Zb s 64).1<40)||(decide ((Zb s 64).1<46)||(decide ((Zb s 64).1<50)||(decide ((Zb s 64).1<53)||(decide ((Zb s 64).1<55)||((Zb s 64).1==55||(decide ((Zb s 64).1<60)||(!ZaS (Zb s 64).2||(!ZaS (Z6 (Zb s 64).2).2||ZaS (Z6 (Z6 (Zb s 64).2).2).2))))))))))
 let x19:= !x18
 let x20:=decide ((Zb s 64).1<30)||(decide ((Zb s 64).1<36)||(decide ((Zb s 64).1<40)||(decide ((Zb s 64).1<46)||(decide ((Zb s 64).1<50)||(decide ((Zb s 64).1<53)||(decide ((Zb s 64).1<55)||((Zb s 64).1==55||(decide ((Zb s 64).1<60)||(!ZaS (Zb s 64).2||ZaS (Z6 (Zb s 64).2).2)))))))))
 let x21:=Zb x9 256
 let x22:=x21.2
 .br (Zj s 64) (.br (x2||(x4||(x11||(x13||(x15||(x17||(x19||(!x20||(decide ((Zb s 64).1<30)||(decide ((Zb s 64).1<36)||(decide ((Zb s 64).1<40)||(decide ((Zb s 64).1<46)||(decide ((Zb s 64).1<50)||(decide ((Zb s 64).1<53)||(decide ((Zb s 64).1<55)||((Zb s 64).1==55||(decide ((Zb s 64).1<60)||ZaS (Zb s 64).2))))))))))))))))) (.br (x2||(x4||(x11||(x13||(x15||(x17||(x19||x20))))))) (.br (x2||(x4||(x11||(x13||(x15||(x17||x18)))))) (.br (x2||(x4||(x11||(x13||(x15||x16))))) (.br (x2||(x4||(x11||(x13||x14)))) (.br (x2||(x4||(x11||x12))) (.br (x2||(x4||x10)) (.br (x2||x3) (.br (x1) (.Lf (some (((bif decide ((Zb s 64).1<30) then ZH.1 else !decide ((Zb s 64).1<36)&&bif decide ((Zb s 64).1<40) then ZH.1 else bif decide ((Zb s 64).1<46) then ZH.1 else bif decide ((Zb s 64).1<50) then ZH.1 else bif decide ((Zb s 64).1<53) then ZH.1 else bif decide ((Zb s 64).1<55) then ZH.1 else bif (Zb s 64).1==55 then ZH.1 else bif decide ((Zb s 64).1<60) then ZH.1 else (Z6 (Zb s 64).2).1,bif decide ((Zb s 64).1<30) then ZH.2.1 else bif decide ((Zb s 64).1<36) then ZH.2.1 else decide ((Zb s 64).1<40)||bif decide ((Zb s 64).1<46) then ZH.2.1 else bif decide ((Zb s 64).1<50) then ZH.2.1 else bif decide ((Zb s 64).1<53) then ZH.2.1 else bif decide ((Zb s 64).1<55) then ZH.2.1 else bif (Zb s 64).1==55 then ZH.2.1 else bif decide ((Zb s 64).1<60) then ZH.2.1 else (Z6 (Z6 (Zb s 64).2).2).1,bif decide ((Zb s 64).1<30) then ZH.2.2.1 else bif decide ((Zb s 64).1<36) then ZH.2.2.1 else bif decide ((Zb s 64).1<40) then ZH.2.2.1 else bif decide ((Zb s 64).1<46) then ZH.2.2.1 else bif decide ((Zb s 64).1<50) then ZH.2.2.1 else bif decide ((Zb s 64).1<53) then ZH.2.2.1 else bif decide ((Zb s 64).1<55) then ZH.2.2.1 else (Zb s 64).1==55||decide ((Zb s 64).1<60)&&ZH.2.2.1,bif decide ((Zb s 64).1<30) then ZH.2.2.2.1 else bif decide ((Zb s 64).1<36) then ZH.2.2.2.1 else bif decide ((Zb s 64).1<40) then ZH.2.2.2.1 else bif decide ((Zb s 64).1<46) then ZH.2.2.2.1 else bif decide ((Zb s 64).1<50) then ZH.2.2.2.1 else bif decide ((Zb s 64).1<53) then (Zb s 64).1==51 else bif decide ((Zb s 64).1<55) then ZH.2.2.2.1 else bif (Zb s 64).1==55 then ZH.2.2.2.1 else bif decide ((Zb s 64).1<60) then ZH.2.2.2.1 else (Z6 (Z6 (Z6 (Zb s 64).2).2).2).1,bif decide ((Zb s 64).1<30) then ZH.2.2.2.2.1 else bif decide ((Zb s 64).1<36) then ZH.2.2.2.2.1 else bif decide ((Zb s 64).1<40) then ZH.2.2.2.2.1 else bif decide ((Zb s 64).1<46) then ZH.2.2.2.2.1 else bif decide ((Zb s 64).1<50) then ZH.2.2.2.2.1 else bif decide ((Zb s 64).1<53) then ZH.2.2.2.2.1 else decide ((Zb s 64).1<55)||bif (Zb s 64).1==55 then ZH.2.2.2.2.1 else decide ((Zb s 64).1<60)&&ZH.2.2.2.2.1,bif decide ((Zb s 64).1<30) then ZH.2.2.2.2.2.1 else bif decide ((Zb s 64).1<36) then ZH.2.2.2.2.2.1 else bif decide ((Zb s 64).1<40) then ZH.2.2.2.2.2.1 else bif decide ((Zb s 64).1<46) then ZH.2.2.2.2.2.1 else bif decide ((Zb s 64).1<50) then Int.tmod (Zb s 64).1 2==0 else bif decide ((Zb s 64).1<53) then ZH.2.2.2.2.2.1 else bif decide ((Zb s 64).1<55) then ZH.2.2.2.2.2.1 else bif (Zb s 64).1==55 then ZH.2.2.2.2.2.1 else bif decide ((Zb s 64).1<60) then ZH.2.2.2.2.2.1 else (Z6 (Z6 (Z6 (Z6 (Zb s 64).2).2).2).2).1,bif decide ((Zb s 64).1<30) then ZH.2.2.2.2.2.2.1 else bif decide ((Zb s 64).1<36) then ZH.2.2.2.2.2.2.1 else bif decide ((Zb s 64).1<40) then ZH.2.2.2.2.2.2.1 else bif decide ((Zb s 64).1<46) then ZH.2.2.2.2.2.2.1 else bif decide ((Zb s 64).1<50) then Int.tmod (Zb s 64).1 2==1 else bif decide ((Zb s 64).1<53) then ZH.2.2.2.2.2.2.1 else bif decide ((Zb s 64).1<55) then ZH.2.2.2.2.2.2.1 else bif (Zb s 64).1==55 then ZH.2.2.2.2.2.2.1 else bif decide ((Zb s 64).1<60) then ZH.2.2.2.2.2.2.1 else (Z6 (Z6 (Z6 (Z6 (Z6 (Zb s 64).2).2).2).2).2).1,bif decide ((Zb s 64).1<30) then ZH.2.2.2.2.2.2.2.1 else bif decide ((Zb s 64).1<36) then ZH.2.2.2.2.2.2.2.1 else bif decide ((Zb s 64).1<40) then ZH.2.2.2.2.2.2.2.1 else bif decide ((Zb s 64).1<46) then ZH.2.2.2.2.2.2.2.1 else bif decide ((Zb s 64).1<50) then ZH.2.2.2.2.2.2.2.1 else decide ((Zb s 64).1<53)||bif decide ((Zb s 64).1<55) then ZH.2.2.2.2.2.2.2.1 else bif (Zb s 64).1==55 then ZH.2.2.2.2.2.2.2.1 else decide ((Zb s 64).1<60)&&ZH.2.2.2.2.2.2.2.1,bif decide ((Zb s 64).1<30) then ZH.2.2.2.2.2.2.2.2.1 else bif decide ((Zb s 64).1<36) then ZH.2.2.2.2.2.2.2.2.1 else bif decide ((Zb s 64).1<40) then ZH.2.2.2.2.2.2.2.2.1 else bif decide ((Zb s 64).1<46) then u8.wrap (Zb (Zb s 64).2 256).1 else bif decide ((Zb s 64).1<50) then ZH.2.2.2.2.2.2.2.2.1 else bif decide ((Zb s 64).1<53) then ZH.2.2.2.2.2.2.2.2.1 else bif decide ((Zb s 64).1<55) then ZH.2.2.2.2.2.2.2.2.1 else bif (Zb s 64).1==55 then ZH.2.2.2.2.2.2.2.2.1 else bif decide ((Zb s 64).1<60) then 1 else u8.wrap x8.1,bif decide ((Zb s 64).1<30) then u8.wrap (Zb s 64).1 else bif decide ((Zb s 64).1<36) then ZH.2.2.2.2.2.2.2.2.2 else bif decide ((Zb s 64).1<40) then ZH.2.2.2.2.2.2.2.2.2 else bif decide ((Zb s 64).1<46) then ZH.2.2.2.2.2.2.2.2.2 else bif decide ((Zb s 64).1<50) then ZH.2.2.2.2.2.2.2.2.2 else bif decide ((Zb s 64).1<53) then ZH.2.2.2.2.2.2.2.2.2 else bif decide ((Zb s 64).1<55) then ZH.2.2.2.2.2.2.2.2.2 else bif (Zb s 64).1==55 then ZH.2.2.2.2.2.2.2.2.2 else bif decide ((Zb s 64).1<60) then (Zac (Zb s 64).2).1 else u8.wrap x21.1),bif decide ((Zb s 64).1<30) then (Zb s 64).2.1 else bif decide ((Zb s 64).1<36) then (Zb s 64).2.1 else bif decide ((Zb s 64).1<40) then (Zb s 64).2.1 else bif decide ((Zb s 64).1<46) then (Zb (Zb s 64).2 256).2.1 else bif decide ((Zb s 64).1<50) then (Zb s 64).2.1 else bif decide ((Zb s 64).1<53) then (Zb s 64).2.1 else bif decide ((Zb s 64).1<55) then (Zb s 64).2.1 else bif (Zb s 64).1==55 then (Zb s 64).2.1 else bif decide ((Zb s 64).1<60) then (Zac (Zb s 64).2).2.1 else x22.1,bif decide ((Zb s 64).1<30) then (Zb s 64).2.2 else bif decide ((Zb s 64).1<36) then (Zb s 64).2.2 else bif decide ((Zb s 64).1<40) then (Zb s 64).2.2 else bif decide ((Zb s 64).1<46) then (Zb (Zb s 64).2 256).2.2 else bif decide ((Zb s 64).1<50) then (Zb s 64).2.2 else bif decide ((Zb s 64).1<53) then (Zb s 64).2.2 else bif decide ((Zb s 64).1<55) then (Zb s 64).2.2 else bif (Zb s 64).1==55 then (Zb s 64).2.2 else bif decide ((Zb s 64).1<60) then (Zac (Zb s 64).2).2.2 else x22.2)))) (.Lf none)) (.Lf none)) (.Lf none)) (.Lf none)) (.Lf none)) (.Lf none)) (.Lf none)) (.Lf none)) (.Lf none)) (.Lf none)
def ZcY (s:List Int×Int):INPT×List Int×Int:=getO (Zp8.Df,Zp9.Df) (Zlw s).val
def Zgu (s:List Int×Int):Bool:=okB (Zlw s).val
def Zlx:En:=boxE Zp9 Zzs Zp8 (λa=>some (Zgu a.1)) (λa=>ZcY a.1)
theorem Zlv:Zd prog 62 Zlx:=
 ZbU (P:=prog) (n:=5036105318265824215071) (k:=8) (l:=[(68,ZbL),(69,Zzu),(118,Zxl),(119,ZfM)]) (ol:=[]) ⟨Zau,Zqa,ZnT,Zed,Tv⟩ Tryz.func62 rfl (by kernel_rfl) Tryz.call62 trivial (rb:=Zp9) (ts:=Zzs) (rs:=Zp8) (t:=λa=>Zlw a.1) (λa=>by kernel_rfl)
abbrev Zlu:R:=R.Pq (R.sl (R.int i64)) (R.int i64)
abbrev Zs6:List Sh:=[Sh.one (R.int i64)]
abbrev Zlt:Rs:=Rs.one (Sh.one (R.sl ZcP))
def ZB6:LS:={n:=39,Sl:=[(0,.fix (A.loc 0 0)),(5,.tip 0),(6,.code (Sh.one (R.int i64))),(7,.fix (A.loc 1 0)),(8,.code (Sh.one (R.int i64)))],Bx:=[[.many (R.Pq (R.sl (R.int i64)) (R.int i64))],[.many ZcP]],Sg:=[⟨ZcP,122,true⟩]}
def Zde (a:QT12):RT (Option (Go1 (QT12))):=
 let x1:List INPT:=a.2.2.2.2.1++[a.2.2.2.1]
 .br (decide (a.2.1>=0)&&decide (iN (List.length a.2.2.2.2.1)<a.1)) (.br (Nat.ble (List.length x1) most) (.Lf (some (Go1.cont (a.1,i64.wrap (a.2.1-1),a.2.2.1,a.2.2.2.1,x1,PUnit.unit)))) (.Lf none)) (.Lf (some (Go1.brk (a.1,a.2.1,a.2.2.1,a.2.2.2.1,a.2.2.2.2.1,PUnit.unit))))
def ZfN:Ora:=ZcQ false ZB6 Zde (λa=>400)
theorem ZiM:Zb6 (envX prog [(62,Zlx),(68,ZbL)] [] 511 8) (.block 2 (.loop (ZaU Tryz.f125.body 2))) ZfN:=
 loopP ⟨Zlv,Zau,Tv⟩
def ZB5:LS:={n:=39,Sl:=[(0,.fix (A.loc 0 0)),(5,.tip 0),(6,.code (Sh.one (R.int i64)))],Bx:=[[.many (R.Pq (R.sl (R.int i64)) (R.int i64))]],Sg:=[⟨ZcP,122,true⟩]}
def Zee (a:QT19):RT (Option (Go1 (QT19))):=
 let x1:= !Zj (ZcY a.2.1).2 4||Zj (Zb (ZcY a.2.1).2 4).2 5
 let x2:= !x1
 let x3:QT12:=(a.1,i64.wrap ((Zb (ZcY a.2.1).2 4).1*(Zb (Zb (ZcY a.2.1).2 4).2 5).1),(Zb (Zb (ZcY a.2.1).2 4).2 5).2,(ZcY a.2.1).1,a.2.2.1,())
 let x4:=runF false Zde (λa_1=>400) x3
 let x5:QT12:=(getO (false,x3) x4).2
 let x6:=x5.2.2
 .br (decide (iN (List.length a.2.2.1)<a.1)) (.br (!Zgu a.2.1||(x2||(!Zj (ZcY a.2.1).2 4||okB x4))) (.br (!Zgu a.2.1||(x2||Zj (ZcY a.2.1).2 4)) (.br (!Zgu a.2.1||x1) (.br (Zgu a.2.1) (.Lf (some (Go1.cont (x5.1,x6.1,x6.2.2.1,PUnit.unit)))) (.Lf none)) (.Lf none)) (.Lf none)) (.Lf none)) (.Lf (some (Go1.brk (a.1,a.2.1,a.2.2.1,PUnit.unit))))
def Znr:Ora:=ZcQ false ZB5 Zee (λa=>400)
theorem Zs7:Zb6 (envX prog [(62,Zlx),(68,ZbL)] [(2,ZfN)] 511 8) (.block 0 (.loop (ZaU Tryz.f125.body 0))) Znr:=
 Ztm (ZcT (l:=[(62,Zlx),(68,ZbL)]) ⟨Zlv,Zau,Tv⟩ [(2,ZfN)] 511 8) (ZwM (by kernel_rfl) (by kernel_rfl) ⟨ZiM,Tv⟩) (λa=>by kernel_rfl)
def Zhn (s:List Int×Int) (n:Int):RT (Option (List INPT×List Int×Int)):=
 let x1:QT19:=((Zb s (i64.wrap (n+1))).1,(Zb s (i64.wrap (n+1))).2,[],())
 let x2:=runF false Zee (λa=>400) x1
 let x3:(List Int×Int)×List INPT×PUnit:=(getO (false,x1) x2).2.2
 .br (Zj s (i64.wrap (n+1))) (.br (okB x2) (.Lf (some ((x3.2.1,x3.1)))) (.Lf none)) (.Lf none)
def Z2 (s:List Int×Int) (n:Int):List INPT×List Int×Int:=getO (Zlt.Df,Zlu.Df) (Zhn s n).val
def Zho (s:List Int×Int) (n:Int):Bool:=okB (Zhn s n).val
def Zzr:En:=boxE Zlu Zs6 Zlt (λa=>some (Zho a.1 a.2)) (λa=>Z2 a.1 a.2)
theorem ZB3:Zd prog 125 Zzr:=
 ZbU (P:=prog) (n:=511) (k:=8) (l:=[(62,Zlx),(68,ZbL)]) (ol:=[(2,ZfN),(0,Znr)]) ⟨Zlv,Zau,Tv⟩ Tryz.func125 rfl (by kernel_rfl) Tryz.call125 ⟨ZiM,Zs7,Tv⟩ (rb:=Zlu) (ts:=Zs6) (rs:=Zlt) (t:=λa=>Zhn a.1 a.2) (λa=>by kernel_rfl)
variable {s:List Int×Int} {k:Int}
theorem NB.up {j:Int} (h:NB s k) (hj:k<=j):NB s j:=⟨h.1,by have:=h.2;omega⟩
theorem ZeA (h:NB s k) (hk:k<=1000000):ZaS s=true/\NB (Z6 s).2 (k+1):=by obtain⟨c1,b,_⟩:=Zn h hk 2 (by decide) (by decide);simp only[ZaS,Z6,Zzt,RT.val,c1,Ya,okB,getO];exact⟨trivial,b⟩
theorem ZaY {a b:Nat} (h:a<=b):Nat.ble a b=true:=by rw[YU];exact h
theorem Zww (h:NB s k) (hk:k<=500000) (n:Nat) (hn:n<=100):
  ZcK s (n:Int)=true/\NB (ZaZ s (n:Int)).2 (k+1+5*n)/\(ZaZ s (n:Int)).1.length<=n:=by
 have hms:=mst;have w0:IntKind.wrap .i64 ((n:Int)+1)=(n:Int)+1:=Zv _ (by omega) (by omega);obtain⟨c1,b1,d0,d1⟩:=Zn h (by omega) ((n:Int)+1) (by omega) (by omega);obtain⟨L,N,hs1⟩:∃L N,(L,N)=(Zb s ((n:Int)+1)).2:=⟨_,_,rfl⟩;obtain⟨q,hq⟩:∃q:Nat,(Zb s ((n:Int)+1)).1=(q:Int):=⟨_,(Yae d0).symm⟩;rw[<-hs1] at b1;obtain⟨r,hr,h1,L',N',o,hs',ho,hR⟩:=Zat (fl:=false) (t:=Zdw) (fuel:=λa=>400)
  (λa=>∃(i:Nat) (L:List Int) (N:Int) (o:List Z7),i<=q/\NB (L,N) (k+1+5*((q-i:Nat):Int))/\o.length<=q-i/\a=((i:Int),(L,N),o,()))
  (λa=>Int.toNat a.1) (λr=>r.1=false/\∃(L:List Int) (N:Int) (o:List Z7),NB (L,N) (k+1+5*(q:Int))/\o.length<=q/\r.2=((0:Int),(L,N),o,()))
  (by
   rintro a ⟨i,L,N,o,hi,hs',ho,rfl⟩;cases i with
   |zero=>
    right;left;exact⟨_,by simp only[Zdw,RT.val];rfl,rfl,L,N,o,by simpa using hs',by omega,rfl⟩
   |succ i=>
    left;have d:decide (((i+1:Nat):Int)>0)=true:=YA (by omega);obtain⟨kw,bw,_⟩:=Zzp hs' (by omega);obtain⟨k1,b1,e0,e1⟩:=Zn bw (by omega) 6 (by decide) (by decide);obtain⟨k2,b2,_⟩:=Zn b1 (by omega) 3 (by decide) (by decide);obtain⟨k3,b3,f0,f1⟩:=Zn b2 (by omega) 5 (by decide) (by decide);have r1:Ze (Zb (Zbg (L,N)).2 6).1 6=true:=Zw.2 ⟨e0,e1⟩;have r2:Ze (Zb (Zb (Zb (Zbg (L,N)).2 6).2 3).2 5).1 5=true:=Zw.2 ⟨f0,f1⟩;have hb:∀x:Z7,Nat.ble (o++[x]).length most=true:=λx=>ZaY (by simp;omega)
    have w:IntKind.wrap .i64 (((i+1:Nat):Int)-1)=(i:Int):=by rw[Zv _ (by omega) (by omega)];omega
    obtain⟨o',ho'⟩:∃o':List Z7,o'=o++[((Zbg (L,N)).1,u16.wrap (if 65535<i64.wrap (i64.wrap (Zbg (L,N)).1+R.get (R.int i64) [0,3,15,255,4095,65535] (Zb (Zbg (L,N)).2 6).1) then 65535 else i64.wrap (i64.wrap (Zbg (L,N)).1+R.get (R.int i64) [0,3,15,255,4095,65535] (Zb (Zbg (L,N)).2 6).1)),decide ((Zb (Zb (Zbg (L,N)).2 6).2 3).1>0),R.get (R.int i64) [0,0,1,2,5] (Zb (Zb (Zb (Zbg (L,N)).2 6).2 3).2 5).1)]:=⟨_,rfl⟩;refine⟨((i:Int),((Zb (Zb (Zb (Zbg (L,N)).2 6).2 3).2 5).2.1,(Zb (Zb (Zb (Zbg (L,N)).2 6).2 3).2 5).2.2),o',()),?_,⟨i,_,_,o',by omega,b3.up (by omega),by rw[ho'];simp;omega,rfl⟩,by simp only;omega⟩
    simp only[Zdw,RT.val,List.length_cons,List.length_nil,Nat.reduceAdd,d,kw,k1,k2,k3,r1,r2,hb,w,ho',Ya,Yf,Yk,Ye,Yw])
  ((q:Int),(L,N),[],()) ⟨q,L,N,[],Yd _,by simpa using b1,by simp,rfl⟩ (by simp only;omega)
 obtain⟨r1,r2⟩:=r;simp only at h1 hR;subst h1 hR;have hv:(Zfc s (n:Int)).val=some (o,L',N'):=by simp only[Zfc,RT.val,w0,c1,hq,<-hs1,hr,okB,getO,Ya]
 simp only[ZcK,ZaZ,hv,okB,getO];exact⟨trivial,hs'.up (by omega),by omega⟩
theorem ZNc {l:List Cell} (h:l.length<=1000):smC l=true:=ZaY (by have:=mst;omega)
theorem ZJX {l:List Int} (h:l.length<=1000):smB l=true:=ZaY (by have:=mst;omega)
theorem ZFZ (h:NB s k) (hk:k<=400000):ZB2 s=true/\NB (nMap s).2 (k+20)/\(nMap s).1.length<=3:=by
 obtain⟨c1,b1,l1⟩:=Zww h (by omega) 2 (by omega);have c1:ZcK s 2=true:=c1;have b1:NB (ZaZ s 2).2 (k+1+5*((2:Nat):Int)):=b1;have l1:(ZaZ s 2).1.length<=2:=l1;obtain⟨c2,b2,_⟩:=Zn b1 (by omega) 3 (by decide) (by decide);have hs:∀x:Z7,Nat.ble ((ZaZ s 2).1++[x]).length most=true:=λx=>ZaY (by have:=mst;simp;omega)
 have hg:∀l:List Z7,Stg.l (newG Zeb Zec l)=l:=λ_=>rfl
 have hv:(ZF0 s).val=some ((ZaZ s 2).1++[(0,65535,true,IntKind.wrap .i64 (Int.tdiv (Zb (ZaZ s 2).2 3).1 2))],(Zb (ZaZ s 2).2 3).2):=by simp only[ZF0,RT.val,hg,c1,c2,hs,Yf,Yk,Ye,Ya]
 refine⟨by simp only[ZB2,hv];rfl,?_,?_⟩
 ·simp only[nMap,hv,getO];exact b2.up (by omega)
 ·simp only[nMap,hv,getO];simp;omega
theorem Zwy (h:NB s k) (hk:k<=300000) (n:Nat) (hn:n<=20):
  Zfe s (n:Int)=true/\NB (Zby s (n:Int)).2 (k+1+10*n)/\(Zby s (n:Int)).1.length<=12*n:=by
 have hms:=mst;have w0:IntKind.wrap .i64 ((n:Int)+1)=(n:Int)+1:=Zv _ (by omega) (by omega);obtain⟨c1,b1,d0,d1⟩:=Zn h (by omega) ((n:Int)+1) (by omega) (by omega);obtain⟨s1,hs1⟩:∃s1,s1=(Zb s ((n:Int)+1)).2:=⟨_,rfl⟩;obtain⟨q,hq⟩:∃q:Nat,(Zb s ((n:Int)+1)).1=(q:Int):=⟨_,(Yae d0).symm⟩;rw[<-hs1] at b1;obtain⟨r,hr,h1,s',o,hs',ho,hR⟩:=Zat (fl:=false) (t:=Zcn) (fuel:=λa=>400)
  (λa=>∃(i:Nat) (s':List Int×Int) (o:List Int),i<=q/\NB s' (k+1+10*((q-i:Nat):Int))/\o.length<=12*(q-i)/\a=((i:Int),s',o,()))
  (λa=>Int.toNat a.1) (λr=>r.1=false/\∃(s':List Int×Int) (o:List Int),NB s' (k+1+10*(q:Int))/\o.length<=12*q/\r.2=((0:Int),s',o,()))
  (by
   rintro a ⟨i,s',o,hi,hs',ho,rfl⟩;cases i with
   |zero=>
    right;left;exact⟨_,by simp only[Zcn,RT.val];rfl,rfl,s',o,by simpa using hs',by omega,rfl⟩
   |succ i=>
    left;have d:decide (((i+1:Nat):Int)>0)=true:=YA (by omega);have w:IntKind.wrap .i64 (((i+1:Nat):Int)-1)=(i:Int):=by rw[Zv _ (by omega) (by omega)];omega
    obtain⟨k0,b0,_⟩:=Zn hs' (by omega) 8 (by decide) (by decide);obtain⟨k1,b1,e0,e1⟩:=Zn b0 (by omega) 4 (by decide) (by decide);obtain⟨k2,b2,_⟩:=Zn b1 (by omega) 256 (by decide) (by decide);obtain⟨k3,b3,f0,f1⟩:=Zn b2 (by omega) 4 (by decide) (by decide);obtain⟨k4,b4,_⟩:=Zhp b0 (by omega);obtain⟨k5,b5,_⟩:=Zn b4 (by omega) 8 (by decide) (by decide);obtain⟨k6,b6,_⟩:=Zn b0 (by omega) 16 (by decide) (by decide);obtain⟨k7,b7,_⟩:=Zhp b6 (by omega);obtain⟨k8,b8,_⟩:=Zih b0 (by omega);obtain⟨k9,b9,_⟩:=Zn b8 (by omega) 64 (by decide) (by decide);obtain⟨ka,ba,g0,g1⟩:=Zn b9 (by omega) 4 (by decide) (by decide);have r1:Ze (Zb (Zb s' 8).2 4).1 4=true:=Zw.2 ⟨e0,e1⟩;have r2:Ze (Zb (Zb (Zb (Zb s' 8).2 4).2 256).2 4).1 4=true:=Zw.2 ⟨f0,f1⟩;have r3:Ze (Zb (Zb (Zac (Zb s' 8).2).2 64).2 4).1 4=true:=Zw.2 ⟨g0,g1⟩;have hb:∀x:List Int,x.length<=12->Nat.ble (o++x).length most=true:=λx hx=>ZaY (by rw[Yh];omega)
    have q1:∀a b c:Int,Nat.ble (o++[a,b,c]).length most=true:=λa b c=>hb _ (by simp)
    have q2:∀a b c d:Int,Nat.ble (o++[a,b,c,d]).length most=true:=λa b c d=>hb _ (by simp)
    have q3:∀a:Int,Nat.ble (o++[a]).length most=true:=λa=>hb _ (by simp)
    have q4:∀a b c d e f g h i j k l:Int,Nat.ble (o++[a,b,c,d,e,f,g,h,i,j,k,l]).length most=true:=λa b c d e f g h i j k l=>hb _ (by simp)
    have hv:∃s2 x,x.length<=12/\NB s2 (k+1+10*((q-i:Nat):Int))/\(Zcn (((i+1:Nat):Int),s',o,())).val=some (Go1.cont ((i:Int),s2,o++x,())):=by
     simp only[Zcn,RT.val,List.length_cons,List.length_nil,Nat.reduceAdd,d,w,k0,k1,k2,k3,k4,k5,k6,k7,k8,k9,ka,r1,r2,r3,q1,q2,q3,q4,Ya,Yf,Yk,Ye,Yw];cases (Zb s' 8).1==0
     ·cases (Zb s' 8).1==1
      ·cases (Zb s' 8).1==2
       ·cases (Zb s' 8).1==3
        ·exact⟨_,[(Zac (Zb s' 8).2).1,IntKind.wrap .u8 (Zb (Zac (Zb s' 8).2).2 64).1,R.get (R.int .u8) [0,0,1,255] (Zb (Zb (Zac (Zb s' 8).2).2 64).2 4).1],by simp,ba.up (by omega),rfl⟩
        ·exact⟨_,[62,IntKind.wrap .u8 (IntKind.wrap .i64 (16+(Zb (Zb s' 8).2 16).1)),211,0,62,(Zcb (Zb (Zb s' 8).2 16).2).1,211,1,62,0,211,1],by simp,b7.up (by omega),rfl⟩
       ·exact⟨_,[251],by simp,b0.up (by omega),rfl⟩
      ·exact⟨_,[62,(Zcb (Zb s' 8).2).1,211,IntKind.wrap .u8 (Zb (Zcb (Zb s' 8).2).2 8).1],by simp,b5.up (by omega),rfl⟩
     ·exact⟨_,[R.get (R.int .u8) [33,49,1,17] (Zb (Zb s' 8).2 4).1,IntKind.wrap .u8 (Zb (Zb (Zb s' 8).2 4).2 256).1,R.get (R.int .u8) [0,0,1,255] (Zb (Zb (Zb (Zb s' 8).2 4).2 256).2 4).1],by simp,b3.up (by omega),rfl⟩
    obtain⟨s2,x,hx,hs2,hv⟩:=hv
    exact⟨_,hv,⟨i,s2,o++x,by omega,hs2,by rw[Yh];omega,rfl⟩,by simp only;omega⟩)
  ((q:Int),s1,[],()) ⟨q,s1,[],Yd _,by simpa using b1,by simp,rfl⟩ (by simp only;omega)
 obtain⟨r1,r2⟩:=r;simp only at h1 hR;subst h1 hR;have hv:(Zfd s (n:Int)).val=some (o,s'):=by simp only[Zfd,RT.val,w0,c1,hq,<-hs1,hr,okB,getO,Ya]
 simp only[Zfe,Zby,hv,okB,getO];exact⟨trivial,hs'.up (by omega),by omega⟩
theorem Ztn (t:Int) (b:List Int):(Zmr t b).length<=b.length:=by have:=Zdu (ZlN t b b.length);rw[ZlM] at this;exact this
theorem ZF3 (h:NB s k) (hk:k<=300000):Zgu s=true/\NB (ZcY s).2 (k+20):=by
 obtain⟨c1,b1,_⟩:=Zn h (by omega) 64 (by decide) (by decide);obtain⟨c2,b2,_⟩:=Zn b1 (by omega) 256 (by decide) (by decide);obtain⟨c3,b3,_⟩:=Zih b1 (by omega);obtain⟨f1,g1⟩:=ZeA b1 (by omega);obtain⟨f2,g2⟩:=ZeA g1 (by omega);obtain⟨f3,g3⟩:=ZeA g2 (by omega);obtain⟨f4,g4⟩:=ZeA g3 (by omega);obtain⟨f5,g5⟩:=ZeA g4 (by omega);obtain⟨c4,b4,_⟩:=Zn g5 (by omega) 256 (by decide) (by decide);obtain⟨c5,b5,_⟩:=Zn b4 (by omega) 256 (by decide) (by decide);have hv:∃c s',(Zlw s).val=some (c,s')/\NB s' (k+20):=by
  simp only[Zlw,RT.val,c1,c2,c3,c4,c5,f1,f2,f3,f4,f5,Ya,Yf,Yk,Ye,Yw];cases decide ((Zb s 64).1<30) with
  |true=>exact⟨_,_,rfl,b1.up (by omega)⟩
  |false=>
  cases decide ((Zb s 64).1<36) with
  |true=>exact⟨_,_,rfl,b1.up (by omega)⟩
  |false=>
  cases decide ((Zb s 64).1<40) with
  |true=>exact⟨_,_,rfl,b1.up (by omega)⟩
  |false=>
  cases decide ((Zb s 64).1<46) with
  |true=>exact⟨_,_,rfl,b2.up (by omega)⟩
  |false=>
  cases decide ((Zb s 64).1<50) with
  |true=>exact⟨_,_,rfl,b1.up (by omega)⟩
  |false=>
  cases decide ((Zb s 64).1<53) with
  |true=>exact⟨_,_,rfl,b1.up (by omega)⟩
  |false=>
  cases decide ((Zb s 64).1<55) with
  |true=>exact⟨_,_,rfl,b1.up (by omega)⟩
  |false=>
  cases ((Zb s 64).1==55) with
  |true=>exact⟨_,_,rfl,b1.up (by omega)⟩
  |false=>
  cases decide ((Zb s 64).1<60) with
  |true=>exact⟨_,_,rfl,b3.up (by omega)⟩
  |false=>exact⟨_,_,rfl,b5.up (by omega)⟩
 obtain⟨c,s',hv,h1⟩:=hv;simp only[Zgu,ZcY,hv,okB,getO];exact⟨trivial,h1⟩
theorem ZMF (s:List Int×Int) (z:Int) (c:INPT) (kk:Nat) (hk:kk<300) (o:List INPT) (size:Nat) (ho:o.length<=size) (hz:size<=300):
  ∃k2 o2,runF false Zde (λ_=>400) ((size:Int),(kk:Int),s,c,o,())=some (false,(size:Int),k2,s,c,o2,())/\o2.length<=size/\o.length<=o2.length/\(o.length<size->o.length<o2.length):=by
 have hms:=mst;obtain⟨r,hr,h1,k2,o2,e1,e2,e3,e4⟩:=Zat (fl:=false) (t:=Zde) (fuel:=λ_=>400)
  (λa=>∃(j:Nat) (o2:List INPT),j<=kk+1/\o2.length<=size/\o.length<=o2.length/\(j=kk+1\/o.length<o2.length)/\a=((size:Int),(j:Int)-1,s,c,o2,()))
  (λa=>Int.toNat (a.2.1+1)) (λr=>r.1=false/\∃k2 o2,r.2=((size:Int),k2,s,c,o2,())/\o2.length<=size/\o.length<=o2.length/\(o.length<size->o.length<o2.length))
  (by
   rintro a ⟨j,o2,hj,h2,h3,h4,rfl⟩;have w:∀j:Nat,j<=1000->IntKind.wrap .i64 (((j:Nat):Int)-1-1)=(j:Int)-1-1:=λj hj=>Zv _ (by omega) (by omega)
   by_cases hc:1<=j/\o2.length<size
   ·left;have d1:decide (((j:Nat):Int)-1>=0)=true:=YA (by omega);have d2:decide (iN o2.length<(size:Int))=true:=YA (by simp only[iN];omega);have hb:Nat.ble (o2++[c]).length most=true:=ZaY (by simp;omega);refine⟨((size:Int),(j:Int)-1-1,s,c,o2++[c],()),?_,⟨j-1,o2++[c],by omega,by simp;omega,by simp;omega,by right;simp;omega,?_⟩,by simp only;omega⟩
    ·simp only[Zde,RT.val,d1,d2,hb,Yah,Ya,w j (by omega)]
    ·have:((j:Nat):Int)-1=((j-1:Nat):Int):=by omega
     rw[this]
   ·right;left;have d:(decide (((j:Nat):Int)-1>=0)&&decide (iN o2.length<(size:Int)))=false:=by simp only[iN,Yab,Yaf];omega
    exact⟨((size:Int),(j:Int)-1,s,c,o2,()),by simp only[Zde,RT.val,d,Yb],rfl,_,o2,rfl,h2,h3,λh=>by
     rcases h4 with h4|h4
     ·omega
     ·exact h4⟩)
  ((size:Int),(kk:Int),s,c,o,()) ⟨kk+1,o,Yd _,ho,Yd _,.inl rfl,by
   have:(kk:Int)=((kk+1:Nat):Int)-1:=by omega
   rw[<-this]⟩ (by simp only;omega)
 obtain⟨r1,r2⟩:=r;simp only at h1 e1;subst h1 e1;exact⟨k2,o2,hr,e2,e3,e4⟩
theorem ZB4 (h:NB s k) (hk:k<=100000) (n:Nat) (hn:n<=250):
  Zho s (n:Int)=true/\NB (Z2 s (n:Int)).2 (k+1+30*n)/\(Z2 s (n:Int)).1.length<=n:=by
 have hms:=mst;have w0:IntKind.wrap .i64 ((n:Int)+1)=(n:Int)+1:=Zv _ (by omega) (by omega);obtain⟨c1,b1,d0,d1⟩:=Zn h (by omega) ((n:Int)+1) (by omega) (by omega);obtain⟨s1,hs1⟩:∃s1,s1=(Zb s ((n:Int)+1)).2:=⟨_,rfl⟩;obtain⟨q,hq⟩:∃q:Nat,(Zb s ((n:Int)+1)).1=(q:Int):=⟨_,(Yae d0).symm⟩;rw[<-hs1] at b1;obtain⟨r,hr,h1,s',o,hs',ho,hR⟩:=Zat (fl:=false) (t:=Zee) (fuel:=λa=>400)
  (λa=>∃(s':List Int×Int) (o:List INPT),NB s' (k+1+30*(o.length:Int))/\o.length<=q/\a=((q:Int),s',o,()))
  (λa=>Int.toNat a.1-a.2.2.1.length) (λr=>r.1=false/\∃(s':List Int×Int) (o:List INPT),NB s' (k+1+30*(q:Int))/\o.length<=q/\r.2=((q:Int),s',o,()))
  (by
   rintro a ⟨s',o,hs',ho,rfl⟩;by_cases hc:o.length<q
   ·left;have d:decide (iN o.length<(q:Int))=true:=YA (by simp only[iN];omega);obtain⟨i1,g1⟩:=ZF3 hs' (by omega);obtain⟨i2,g2,m0,m1⟩:=Zn g1 (by omega) 4 (by decide) (by decide);obtain⟨i3,g3,m2,m3⟩:=Zn g2 (by omega) 5 (by decide) (by decide);obtain⟨x,hx⟩:∃x:Nat,(Zb (ZcY s').2 4).1=(x:Int):=⟨_,(Yae m0).symm⟩;obtain⟨y,hy⟩:∃y:Nat,(Zb (Zb (ZcY s').2 4).2 5).1=(y:Int):=⟨_,(Yae m2).symm⟩;have hxy:x*y<=3*4:=Nat.mul_le_mul (by omega) (by omega);have w:IntKind.wrap .i64 ((x:Int)*(y:Int))=((x*y:Nat):Int):=by rw[show (x:Int)*(y:Int)=((x*y:Nat):Int) by simp,Zv _ (by omega) (by omega)]
    obtain⟨k2,o2,hr,e2,e3,e4⟩:=ZMF (Zb (Zb (ZcY s').2 4).2 5).2 0 (ZcY s').1 (x*y) (by omega) o q ho (by omega);have e5:=e4 hc;refine⟨((q:Int),(Zb (Zb (ZcY s').2 4).2 5).2,o2,()),?_,⟨_,o2,g3.up (by omega),e2,rfl⟩,by simp only;omega⟩;simp only[Zee,RT.val,d,i1,i2,i3,hx,hy,w,hr,okB,getO,Ya,Yf,Yk,Ye,Yw]
   ·right;left;have d:decide (iN o.length<(q:Int))=false:=Y2 (by simp only[iN];omega)
    exact⟨_,by simp only[Zee,RT.val,d,Yb],rfl,s',o,hs'.up (by omega),ho,rfl⟩)
  ((q:Int),s1,[],()) ⟨s1,[],by simpa using b1,by simp,rfl⟩ (by simp only[List.length_nil];omega)
 obtain⟨r1,r2⟩:=r;simp only at h1 hR;subst h1 hR;have hv:(Zhn s (n:Int)).val=some (o,s'):=by simp only[Zhn,RT.val,w0,c1,hq,<-hs1,hr,okB,getO,Ya]
 simp only[Zho,Z2,hv,okB,getO];exact⟨trivial,hs'.up (by omega),by omega⟩
theorem Zs9 (h:NB s k) (hk:k<=10000):
  Zii s=true/\NB (ZF s).2 (k+300)/\(∃s1,NB s1 (k+1)/\(ZF s).1.2.1=(nMap s1).1)/\((ZF s).1.1=1\/(ZF s).1.1=2)/\
   (0<=(ZF s).1.2.2.1/\(ZF s).1.2.2.1<=2)/\∃l:List Cell,l.length<=200/\(ZF s).1.2.2.2.2.2.2=normX l:=by
 have hms:=mst;obtain⟨c0,b0,hch⟩:=ZI0 h (by omega);obtain⟨c1,b1,l1⟩:=ZFZ b0 (by omega);obtain⟨c2,b2,w0,w1⟩:=Zn b1 (by omega) 3 (by decide) (by decide);obtain⟨c3,b3,_⟩:=Zn b2 (by omega) 4 (by decide) (by decide);obtain⟨c4,b4,_⟩:=Zn b3 (by omega) 6 (by decide) (by decide);obtain⟨c5,b5,_⟩:=Zhp b4 (by omega);obtain⟨c6,b6,_⟩:=Zhp b5 (by omega)
 obtain⟨s2,hs2,b7⟩:∃s2,s2=((bif (Zb (Zb (Zb (nMap (ZaJ s).2).2 3).2 4).2 6).1==0 then (Zcb (Zcb (Zb (Zb (Zb (nMap (ZaJ s).2).2 3).2 4).2 6).2).2).2.1 else (Zb (Zb (Zb (nMap (ZaJ s).2).2 3).2 4).2 6).2.1,
   bif (Zb (Zb (Zb (nMap (ZaJ s).2).2 3).2 4).2 6).1==0 then (Zcb (Zcb (Zb (Zb (Zb (nMap (ZaJ s).2).2 3).2 4).2 6).2).2).2.2 else (Zb (Zb (Zb (nMap (ZaJ s).2).2 3).2 4).2 6).2.2):List Int×Int)/\NB s2 (k+30):=by
  refine⟨_,rfl,?_⟩;cases (Zb (Zb (Zb (nMap (ZaJ s).2).2 3).2 4).2 6).1==0
  ·exact b4.up (by omega)
  ·exact b6.up (by omega)
 obtain⟨c8,b8,l8⟩:=Zwy b7 (by omega) 12 (by omega);have c8:Zfe s2 12=true:=c8;have b8:NB (Zby s2 12).2 (k+30+1+10*((12:Nat):Int)):=b8;have l8:(Zby s2 12).1.length<=12*12:=l8;obtain⟨c9,b9,d0,d1⟩:=Zn b8 (by omega) 4 (by decide) (by decide);have hl:=Ztn 0 (Zby s2 12).1;obtain⟨q,hq⟩:∃q:Nat,(Zb (Zby s2 12).2 4).1=(q:Int):=⟨_,(Yae d0).symm⟩;have hg:∀l:List Cell,Stg.l (newG ZfB ZfC l)=l:=λ_=>rfl
 have key:∀x y z:BRDT,∀o:List Cell,o.length<=144->∃s' o',NB s' (k+200)/\o'.length<=200/\
   runF false Zef (λ_=>400) ((q:Int),(Zb (Zby s2 12).2 4).2,x,y,o,())=some (false,0,s',x,y,o',()):=by
  intro x y z o ho;obtain⟨r,hr,h1,s',o',g1,g2,g3⟩:=Zat (fl:=false) (t:=Zef) (fuel:=λ_=>400)
   (λa=>∃(i:Nat) (s':List Int×Int) (o:List Cell),i<=q/\NB s' (k+30+1+10*((12:Nat):Int)+1+4*((q-i:Nat):Int))/\o.length<=144+3*(q-i)/\a=((i:Int),s',x,y,o,()))
   (λa=>Int.toNat a.1) (λr=>r.1=false/\∃s' o',NB s' (k+200)/\o'.length<=200/\r.2=(0,s',x,y,o',()))
   (by
    rintro a ⟨i,s',o,hi,hs',ho,rfl⟩;cases i with
    |zero=>
     right;left;exact⟨_,by simp only[Zef,RT.val];rfl,rfl,s',o,hs'.up (by omega),by omega,rfl⟩
    |succ i=>
     left;have d:decide (((i+1:Nat):Int)>0)=true:=YA (by omega);have w:IntKind.wrap .i64 (((i+1:Nat):Int)-1)=(i:Int):=by rw[Zv _ (by omega) (by omega)];omega
     obtain⟨k0,b0,e0,e1⟩:=Zn hs' (by omega) 6 (by decide) (by decide);obtain⟨k1,b1,_⟩:=Zih b0 (by omega);have r1:Ze (Zb s' 6).1 6=true:=Zw.2 ⟨e0,e1⟩;have hsb:∀a b c:Int,smB [a,b,c]=true:=λa b c=>ZJX (by simp)
     have hll:=Ztn (IntKind.wrap .u16 (R.get (R.int .i64) [36,60,52,44,56,32] (Zb s' 6).1)) [(Zac (Zb s' 6).2).1,251,201];simp only[List.length_cons,List.length_nil] at hll;have hb:Nat.ble (o++Zmr (IntKind.wrap .u16 (R.get (R.int .i64) [36,60,52,44,56,32] (Zb s' 6).1)) [(Zac (Zb s' 6).2).1,251,201]).length most=true:=ZaY (by rw[Yh];omega);refine⟨((i:Int),(Zac (Zb s' 6).2).2,x,y,o++Zmr (IntKind.wrap .u16 (R.get (R.int .i64) [36,60,52,44,56,32] (Zb s' 6).1)) [(Zac (Zb s' 6).2).1,251,201],()),?_,⟨i,_,_,by omega,b1.up (by omega),by rw[Yh];omega,rfl⟩,by simp only;omega⟩
     simp only[Zef,RT.val,hg,List.length_cons,List.length_nil,Nat.reduceAdd,d,w,k0,k1,r1,hsb,hb,Ya,Yf,Yk,Ye,Yw])
   ((q:Int),(Zb (Zby s2 12).2 4).2,x,y,o,()) ⟨q,_,o,Yd _,b9.up (by omega),by omega,rfl⟩ (by simp only;omega)
  obtain⟨r1,r2⟩:=r;simp only at h1 g3;subst h1 g3;exact⟨s',o',g1,g2,hr⟩
 obtain⟨s',o',g1,g2,hr⟩:=key (0,[],0,0,0,false,[]) ((ZaJ s).1,(nMap (ZaJ s).2).1,(Zb (nMap (ZaJ s).2).2 3).1,bif (Zb (Zb (Zb (nMap (ZaJ s).2).2 3).2 4).2 6).1==0 then (Zcb (Zb (Zb (Zb (nMap (ZaJ s).2).2 3).2 4).2 6).2).1 else 0,
  bif (Zb (Zb (Zb (nMap (ZaJ s).2).2 3).2 4).2 6).1==0 then (Zcb (Zcb (Zb (Zb (Zb (nMap (ZaJ s).2).2 3).2 4).2 6).2).2).1 else 4,(Zb (Zb (nMap (ZaJ s).2).2 3).2 4).1==0,[]) (0,[],0,0,0,false,[]) (Zmr 0 (Zby s2 12).1) (by omega)
 have hsc:smC o'=true:=ZNc (by omega);have hsb:smB (Zby s2 12).1=true:=ZJX (by omega);have hv:∃p d,(ZlB s).val=some (((ZaJ s).1,(nMap (ZaJ s).2).1,(Zb (nMap (ZaJ s).2).2 3).1,p,d,(Zb (Zb (nMap (ZaJ s).2).2 3).2 4).1==0,normX o'),s'):=by
  refine⟨bif (Zb (Zb (Zb (nMap (ZaJ s).2).2 3).2 4).2 6).1==0 then (Zcb (Zb (Zb (Zb (nMap (ZaJ s).2).2 3).2 4).2 6).2).1 else 0,
   bif (Zb (Zb (Zb (nMap (ZaJ s).2).2 3).2 4).2 6).1==0 then (Zcb (Zcb (Zb (Zb (Zb (nMap (ZaJ s).2).2 3).2 4).2 6).2).2).1 else 4,?_⟩
  simp only[ZlB,RT.val,hg,<-hs2,c0,c1,c2,c3,c4,c5,c6,c8,c9,hsb,hq,hr,hsc,okB,getO,Ya,Yf,Yk,Ye,Yw]
 obtain⟨p,d,hv⟩:=hv;have e1:Zii s=true:=by simp only[Zii,hv];rfl
 have e2:ZF s=(((ZaJ s).1,(nMap (ZaJ s).2).1,(Zb (nMap (ZaJ s).2).2 3).1,p,d,(Zb (Zb (nMap (ZaJ s).2).2 3).2 4).1==0,normX o'),s'):=by simp only[ZF,hv,getO]
 rw[e2];exact⟨e1,g1.up (by omega),⟨_,b0,rfl⟩,hch,⟨w0,by show (Zb (nMap (ZaJ s).2).2 3).1<=2;omega⟩,o',g2,rfl⟩
theorem ZLj (s:Int) {l:Int} (h:0<=l):vOnC s l=true:=by simp only[vOnC,vOnT,RT.val,YA h,Ya,okB]
theorem Zn9 (s k:Int):ZmD s k=true/\ -1<=Zgh s k/\Zgh s k<=7:=by
 obtain⟨r,hr,h0,h1,h2⟩:=Zat (fl:=false) (t:=ZgK) (fuel:=λ_=>9)
  (λa=>∃(i:Nat) (m:Int),i<=8/\ -1<=m/\m<=7/\a=(s,k,m,(i:Int),()))
  (λa=>Int.toNat (8-a.2.2.2.1)) (λr=>r.1=false/\ -1<=r.2.2.2.1/\r.2.2.2.1<=7)
  (by
   rintro a ⟨i,m,hi,h1,h2,rfl⟩;by_cases hlt:i<8
   ·left;have d:decide ((i:Int)<8)=true:=YA (by omega);have w:IntKind.wrap .i64 ((i:Int)+1)=((i+1:Nat):Int):=by rw[Zv _ (by omega) (by omega)];omega
    have c:vOnC s (i:Int)=true:=ZLj s (by omega);refine⟨(s,k,bif vOn s (i:Int)&&(decide (m<0)||decide (ZhQ (i:Int) k<ZhQ m k)) then (i:Int) else m,((i+1:Nat):Int),()),by simp only[ZgK,RT.val,d,c,w,Ya],⟨i+1,_,by omega,?_,?_,rfl⟩,by simp only;omega⟩
    ·cases vOn s (i:Int)&&(decide (m<0)||decide (ZhQ (i:Int) k<ZhQ m k))<;>simp only[Ya,Yb]<;>omega
    ·cases vOn s (i:Int)&&(decide (m<0)||decide (ZhQ (i:Int) k<ZhQ m k))<;>simp only[Ya,Yb]<;>omega
   ·right;left;have d:decide ((i:Int)<8)=false:=Y2 (by omega)
    exact⟨(s,k,m,(i:Int),()),by simp only[ZgK,RT.val,d,Yb],rfl,h1,h2⟩)
  (s,k,-1,0,()) ⟨0,-1,by omega,by omega,by omega,rfl⟩ (by simp only;omega)
 obtain⟨r1,r2⟩:=r;simp only at h0 h1 h2;subst h0;have hv:(Zq9 s k).val=some r2.2.2.1:=by simp only[Zq9,RT.val,hr,okB,getO,Ya]
 exact⟨by simp only[ZmD,hv];rfl,by simp only[Zgh,hv,getO];exact h1,by simp only[Zgh,hv,getO];exact h2⟩
theorem Zup (p:PICT):ZAj p=true/\ -1<=vPck p/\vPck p<=7:=by
 have key:∀r m s k q,∃v:Int,(Zq8 r m s k q).val=some v/\ -1<=v/\v<=7:=by
  intro r m s k q;have h1:=Zn9 (Zb1 .u8 r m) k;have h2:=Zn9 (ZiF m s q) k;simp only[Zq8,RT.val,h1.1,h2.1,Ya];cases decide (Zgh (Zb1 .u8 r m) k>=0)&&(decide (Zgh (ZiF m s q) k<0)||decide (ZhQ (Zgh (Zb1 .u8 r m) k) k<ZhQ (Zgh (ZiF m s q) k) k))
  ·exact⟨-1,rfl,by omega,by omega⟩
  ·exact⟨_,rfl,h1.2.1,h1.2.2⟩
 obtain⟨v,hv,h1,h2⟩:=key (vReq p) p.2.2.2.2.2.2.2.2.2.2.2.2.2.2.2.1 p.2.2.2.2.2.2.2.2.2.2.2.2.2.2.1 p.2.2.2.2.2.2.2.2.2.2.2.2.2.2.2.2.1 p.2.2.2.2.2.2.2.2.2.1;have e:(ZDl p).val=some v:=by simp only[ZDl,RT.val,ZDk,ZLh,hv,okB,getO,Ya]
 exact⟨by simp only[ZAj,e];rfl,by simp only[vPck,e,getO];exact h1,by simp only[vPck,e,getO];exact h2⟩
theorem ZLm (p:PICT):ZHP p=true:=by simp only[ZHP,ZHO,RT.val,(Zup p).1,Ya,okB]
variable {x:Int}
theorem Zxy (p:PICT) (h:0<=x):ZjJ p x=true:=by simp only[ZjJ,Zxz,RT.val,YA h,Ya,okB]
theorem ZxP (p:PICT) (h:0<=x):ZjN p x=true:=by simp only[ZjN,ZxQ,RT.val,YA h,Ya,okB]
theorem ZLp (p:PICT):ZHS p=true:=by
 have h1:=(Zup p).1;have h3:∀q:PICT,ZjN q (andI .i64 p.2.2.2.2.2.2.2.2.2.2.2.2.2.2.2.2.2.2.1 7)=true:=λq=>ZxP q (and7 _).1
 have h2:∀q:PICT,(!decide (vPck p>=0)||ZjJ q (vPck p))=true:=λq=>by
  by_cases h:vPck p>=0
  ·rw[Zxy q h,Ye]
  ·rw[Y2 h];rfl
 unfold ZHS ZHR;simp only[RT.val,h1,h2,h3,Ye,Ya];cases p.2.2.2.2.2.2.2.2.2.2.2.2.2.2.2.2.2.1==0
 ·cases p.2.2.2.2.2.2.2.2.2.2.2.2.2.2.2.2.2.1==1
  ·rfl
  ·cases p.2.2.1<;>rfl
 ·rfl
theorem ZHI (p:PICT) (h:Bool):ZxC p h=true:=by
 have h1:=(Zup p).1;unfold ZxC ZxA;by_cases hx:0<=vPck p
 ·have h2:∀q:PICT,ZjJ q (vPck p)=true:=λq=>Zxy q hx
  have h3:∀q:PICT,ZjN q (vPck p)=true:=λq=>ZxP q hx
  simp only[RT.val,h1,h2,h3,ZaN,Zad,Ye,Yf,Ya];cases h
  ·cases p.2.2.2.2.2.2.2.2.2.2.2.1
   ·cases p.2.2.2.2.2.2.2.2.2.2.1<;>rfl
   ·cases decide (vPck p<0)<;>rfl
  ·rfl
 ·have h2:decide (vPck p<0)=true:=YA (by omega);simp only[RT.val,h1,h2,ZaN,Zad,Ye,Yt,Yf,Ya];cases h
  ·cases p.2.2.2.2.2.2.2.2.2.2.2.1
   ·cases p.2.2.2.2.2.2.2.2.2.2.1<;>rfl
   ·rfl
  ·rfl
theorem ZHN (p:PICT) (v:Int):ZxI p v=true:=by
 have h1:=λs k=>(Zn9 s k).1
 have h2:∀x:Int,(!decide (x>=0)||decide (0<=x))=true:=λx=>by by_cases h:0<=x<;>simp[h]
 have h3:decide (0<=IntKind.wrap .i64 (andI .u8 v 7))=true:=by have:=and7b v;rw[Zv _ (by omega) (by omega)];exact YA this.1
 unfold ZxI ZxH;simp only[RT.val,h1,h2,h3,ZaN,Zad,Ye,Yf,Ya];rfl
theorem ZC3 (p:PICT) (h:Bool) (v:Int):Zn4 p h v=true:=by
 unfold Zn4 Zn2;simp only[RT.val,ZHN,Ye,Ya];cases h
 ·cases andI .u8 v 16 !=0
  ·cases andI .u8 v 8==0<;>rfl
  ·rfl
 ·rfl
theorem ZDb (d:QT6) (r:Int):Zn7 d r=true:=by have h:=and3 r;have h1:decide (0<=andI .i64 r 3/\andI .i64 r 3<4)=true:=YA ⟨h.1,by omega⟩;simp only[Zn7,Zn5,RT.val,h1,Ya,okB]
theorem ZdG (o:Bool) {n:Int} (h:0<=n):Zep o n=true:=by simp only[Zep,ZHG,RT.val,YA h,Ye,Ya];cases o<;>rfl
theorem ZAf (l:List INPT) (hl:l.length<=1000):Zxm l=true/\(ZjC l).length=4*l.length:=by
 have hms:=mst;obtain⟨r,hr,h0,h1⟩:=Zat (fl:=false) (t:=Zdc) (fuel:=λ_=>1000000000000)
  (λa=>∃(i:Nat) (o:List Int),i<=l.length/\o.length=4*i/\a=(l,(l.length:Int),(i:Int),o,()))
  (λa=>Int.toNat (a.2.1-a.2.2.1)) (λr=>r.1=false/\r.2.2.2.2.1.length=4*l.length)
  (by
   rintro a ⟨i,o,hi,ho,rfl⟩;by_cases hlt:i<l.length
   ·left;have d:decide ((i:Int)<(l.length:Int))=true:=YA (by omega);have d2:decide ((i:Int)>=65536)=false:=Y2 (by omega);have hin:Ze (i:Int) l.length=true:=Zw.2 ⟨by omega,by omega⟩;have w:IntKind.wrap .i64 ((i:Int)+1)=((i+1:Nat):Int):=by rw[Zv _ (by omega) (by omega)];omega
    have hb:∀a b c d:Int,Nat.ble (o++[a,b,c,d]).length most=true:=λa b c d=>ZaY (by simp;omega)
    have b0:=λx=>ZdG x (n:=0) (by decide)
    have b1:=λx=>ZdG x (n:=1) (by decide)
    have b2:=λx=>ZdG x (n:=2) (by decide)
    have b3:=λx=>ZdG x (n:=3) (by decide)
    have b4:=λx=>ZdG x (n:=4) (by decide)
    have b5:=λx=>ZdG x (n:=5) (by decide)
    have b6:=λx=>ZdG x (n:=6) (by decide)
    have b7:=λx=>ZdG x (n:=7) (by decide)
    have hv:∃a b c d:Int,(Zdc (l,(l.length:Int),(i:Int),o,())).val=some (Go1.cont (l,(l.length:Int),((i+1:Nat):Int),o++[a,b,c,d],())):=by simp only[Zdc,RT.val,d,d2,hin,w,hb,b0,b1,b2,b3,b4,b5,b6,b7,ZaN,Zad,Ye,Yf,Yk,Yw,Ya,Yb];exact⟨_,_,_,_,rfl⟩
    obtain⟨a,b,c,d,hv⟩:=hv;exact⟨_,hv,⟨i+1,_,by omega,by simp;omega,rfl⟩,by simp only;omega⟩
   ·right;left;have d:decide ((i:Int)<(l.length:Int))=false:=Y2 (by omega)
    exact⟨(l,(l.length:Int),(i:Int),o,()),by simp only[Zdc,RT.val,d,Yb],rfl,by simp only;omega⟩)
  (l,(l.length:Int),0,[],()) ⟨0,[],by omega,rfl,rfl⟩ (by simp only;omega)
 obtain⟨r1,r2⟩:=r;simp only at h0 h1;subst h0;have hv:(Zfs l).val=some r2.2.2.2.1:=by simp only[Zfs,RT.val,iN,hr,okB,getO,Ya]
 exact⟨by simp only[Zxm,hv];rfl,by simp only[ZjC,hv,getO];exact h1⟩
theorem ZhO (l:List Int) (hl:l.length<=4000):Zi9 l=true/\(ZaK l).length=l.length/4:=by
 have hms:=mst;obtain⟨r,hr,h0,h1⟩:=Zat (fl:=false) (t:=Zcj) (fuel:=λ_=>1000000000000)
  (λa=>∃(i:Nat) (o:List INPT),4*i<=l.length/\o.length=i/\a=(l,((4*i:Nat):Int),o,()))
  (λa=>Int.toNat (l.length-a.2.1)) (λr=>r.1=false/\r.2.2.2.1.length=l.length/4)
  (by
   rintro a ⟨i,o,hi,ho,rfl⟩;have w1:IntKind.wrap .i64 (((4*i:Nat):Int)+1)=((4*i+1:Nat):Int):=by rw[Zv _ (by omega) (by omega)];omega
   have w2:IntKind.wrap .i64 (((4*i:Nat):Int)+2)=((4*i+2:Nat):Int):=by rw[Zv _ (by omega) (by omega)];omega
   have w3:IntKind.wrap .i64 (((4*i:Nat):Int)+3)=((4*i+3:Nat):Int):=by rw[Zv _ (by omega) (by omega)];omega
   have w4:IntKind.wrap .i64 (((4*i:Nat):Int)+4)=((4*(i+1):Nat):Int):=by rw[Zv _ (by omega) (by omega)];omega
   by_cases hlt:4*i+4<=l.length
   ·left;have d:(decide (((4*(i+1):Nat):Int)<=iN l.length)&&decide (iN o.length<65536))=true:=by simp only[iN,Yc,YF];omega
    have i0:Ze ((4*i:Nat):Int) l.length=true:=Zw.2 ⟨by omega,by omega⟩;have i1:Ze ((4*i+1:Nat):Int) l.length=true:=Zw.2 ⟨by omega,by omega⟩;have i2:Ze ((4*i+2:Nat):Int) l.length=true:=Zw.2 ⟨by omega,by omega⟩;have i3:Ze ((4*i+3:Nat):Int) l.length=true:=Zw.2 ⟨by omega,by omega⟩;have hb:∀a:INPT,Nat.ble (o++[a]).length most=true:=λa=>ZaY (by simp;omega)
    have hv:∃x:INPT,(Zcj (l,((4*i:Nat):Int),o,())).val=some (Go1.cont (l,((4*(i+1):Nat):Int),o++[x],())):=by
     simp only[Zcj,RT.val,w1,w2,w3,w4,d,i0,i1,i2,i3,hb,ZaN,Zad,Ye,Yf,Yk,Yw,Ya,Yb];cases R.get (R.int .u8) l ((4*i+3:Nat):Int) !=Zq0 (R.get (R.int .u8) l ((4*i:Nat):Int)) (R.get (R.int .u8) l ((4*i+1:Nat):Int)) (R.get (R.int .u8) l ((4*i+2:Nat):Int))
     ·exact⟨_,rfl⟩
     ·exact⟨_,rfl⟩
    obtain⟨x,hv⟩:=hv;exact⟨_,hv,⟨i+1,_,by omega,by simp;omega,rfl⟩,by simp only;omega⟩
   ·right;left;have d:(decide (((4*(i+1):Nat):Int)<=iN l.length)&&decide (iN o.length<65536))=false:=by simp only[iN,Yab,Yaf];left;omega
    exact⟨(l,((4*i:Nat):Int),o,()),by simp only[Zcj,RT.val,w4,d,Yb],rfl,by simp only;omega⟩)
  (l,0,[],()) ⟨0,[],by omega,rfl,rfl⟩ (by simp only;omega)
 obtain⟨r1,r2⟩:=r;simp only at h0 h1;subst h0;have hv:(ZgF l).val=some r2.2.2.1:=by simp only[ZgF,RT.val,hr,okB,getO,Ya]
 exact⟨by simp only[Zi9,hv];rfl,by simp only[ZaK,hv,getO];exact h1⟩
abbrev MacT:=List Z7×List Cell×List Int×List (Int×Int)
theorem ZqL (l:List Z7) (m:List Cell) (t v:Int):(ZdR l m t v).length<=m.length+1:=by
 have h:=Zdu m;unfold ZdR;cases decide (ZbI l t>=0)&&(R.get GR l (ZbI l t)).2.2.1
 ·exact Yy h (Yax _)
 ·exact Yy (ZpN _ _) (by omega)
def pre (o:List (Int×Int)) (m:MacT):MacT:=(m.1,m.2.1,m.2.2.1,o++m.2.2.2)
end
end Go.Proofs.YtpnjbfjomebppaaGreat
