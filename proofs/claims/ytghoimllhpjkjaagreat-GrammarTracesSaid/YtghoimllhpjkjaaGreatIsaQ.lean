import Derived.Test.YtghoimllhpjkjaaGreatRunL
import Derived.Test.YtghoimllhpjkjaaGreatS3New
open Go.Proofs.Tryz (prog)
open Go.IntKind (u8 u16 i64)
set_option linter.unusedSimpArgs false
open Go Go.S3 Go.Proofs
set_option linter.unusedVariables false
set_option maxRecDepth 100000
namespace Go.Proofs.YtghoimllhpjkjaaGreat
noncomputable section
abbrev Zod:R:=R.Pq (R.int u16) (R.int u8)
abbrev Zoe:Nat:=106
abbrev Zuw:List Sh:=[Sh.one rcCE,Sh.agg (R.Pq (R.int u16) (R.int u8))]
def ZHz:LS:={n:=53,Sl:=[(3,.fix (A.loc 0 0)),(5,.tip 0),(6,.code (Sh.one R.bool)),(9,.code (Sh.one rcCE)),(10,.code (Sh.one (R.int i64))),(11,.code (Sh.one (R.int i64)))],Bx:=[[.many (R.Pq (R.int u16) (R.int u8))]],Sg:=[⟨(R.Pq (R.int u16) (R.int u8)),106,false⟩]}
def ZxP (a:QT7):RT (Option (Go1 (QT7))):=
 let x1:Int×Int:=R.get (R.Pq (R.int u16) (R.int u8)) a.2.1 a.2.2.2.1
 let x2:=x1.1
 let x3:= !a.1&&decide (x2>=a.2.2.2.2.1.1)
 let x4:List (Int×Int):=a.2.2.2.2.2.1++[a.2.2.2.2.1]
 let x5:= !x3||(!a.2.2.2.2.1.2 !=0||Nat.ble (List.length x4) most)
 let x6:=x2 !=a.2.2.2.2.1.1
 let x7:List (Int×Int):=bif x3 then bif a.2.2.2.2.1.2 !=0 then x4 else a.2.2.2.2.2.1 else a.2.2.2.2.2.1
 let x8:List (Int×Int):=x7++[x1]
 .br (decide (a.2.2.2.1<a.2.2.1)) (.br (!Ze a.2.2.2.1 (List.length a.2.1)||(!x5||(!x6||Nat.ble (List.length x8) most))) (.br (!Ze a.2.2.2.1 (List.length a.2.1)||x5) (.br (Ze a.2.2.2.1 (List.length a.2.1)) (.Lf (some (Go1.cont (x3||a.1,a.2.1,a.2.2.1,i64.wrap (a.2.2.2.1+1),a.2.2.2.2.1,bif x6 then x8 else x7,PUnit.unit)))) (.Lf none)) (.Lf none)) (.Lf none)) (.Lf (some (Go1.brk (a.1,a.2.1,a.2.2.1,a.2.2.2.1,a.2.2.2.2.1,a.2.2.2.2.2.1,PUnit.unit))))
def ZxQ:Ora:=Zdo false ZHz ZxP (λa=>1000000000000)
theorem Zz4:Zb9 (envX prog [] [] 511 8) (.block 0 (.loop (ZaV Tryz.f149.body 0))) ZxQ:=
 loopP trivial
def ZxO (m:List (Int×Int)) (c:Int×Int):RT (Option (List (Int×Int))):=
 let x1:QT7:=(false,m,iN (List.length m),0,c,[],())
 let x2:=runF false ZxP (λa=>1000000000000) x1
 let x3:QT7:=(getO (false,x1) x2).2
 let x4:=x3.2.2.2.2
 let x5:=x4.1
 let x6:= !x3.1&&x5.2 !=0
 let x7:=x4.2.1
 let x8:List (Int×Int):=x7++[x5]
 .br (okB x2) (.br (!x6||Nat.ble (List.length x8) most) (.Lf (some (bif x6 then x8 else x7))) (.Lf none)) (.Lf none)
def ZHA (m:List (Int×Int)) (c:Int×Int):List (Int×Int):=getO [] (ZxO m c).val
def ZxR (m:List (Int×Int)) (c:Int×Int):Bool:=okB (ZxO m c).val
def ZDC:En:=frzE (newE Zod Zoe Zuw (λa=>some (ZxR a.1 a.2)) (λa=>ZHA a.1 a.2))
theorem ZDD:Zd prog 149 (newE Zod Zoe Zuw (λa=>some (ZxR a.1 a.2)) (λa=>ZHA a.1 a.2)):=
 Zi4 (P:=prog) (n:=511) (k:=8) (l:=[]) (ol:=[(0,ZxQ)]) trivial Tryz.func149 rfl (by kernel_rfl) Tryz.call149 ⟨Zz4,Tv⟩ (r:=Zod) (T:=Zoe) (ts:=Zuw) (t:=λa=>ZxO a.1 a.2) (λa=>by kernel_rfl)
theorem ZxN:Zd prog 149 ZDC:=Zta ZDD
abbrev ZiV:R:=R.Pq (R.int u16) (R.int u8)
abbrev ZiW:Nat:=106
abbrev Zol:List Sh:=[Sh.one rcCE]
def ZDX:LS:={n:=21,Sl:=[(3,.tip 0),(10,.code (Sh.one rcCE)),(11,.code (Sh.one (R.int i64))),(12,.code (Sh.one (R.int i64)))],Bx:=[],Sg:=[⟨(R.Pq (R.int u16) (R.int u8)),106,false⟩]}
def ZeR (a:List (Int×Int)×Int×Int×List (Int×Int)×PUnit):RT (Option (Go1 (List (Int×Int)×Int×Int×List (Int×Int)×PUnit))):=
 .br (decide (a.2.2.1<a.2.1)) (.br (!Ze a.2.2.1 (List.length a.1)||ZxR a.2.2.2.1 (R.get (R.Pq (R.int u16) (R.int u8)) a.1 a.2.2.1)) (.br (Ze a.2.2.1 (List.length a.1)) (.Lf (some (Go1.cont (a.1,a.2.1,i64.wrap (a.2.2.1+1),Stg.l (newG Zod Zoe (ZHA a.2.2.2.1 (R.get (R.Pq (R.int u16) (R.int u8)) a.1 a.2.2.1))),PUnit.unit)))) (.Lf none)) (.Lf none)) (.Lf (some (Go1.brk (a.1,a.2.1,a.2.2.1,a.2.2.2.1,PUnit.unit))))
def Zrv:Ora:=Zdo false ZDX ZeR (λa=>1000000000000)
theorem ZuG:Zb9 (envX prog [(44,ZiS),(149,ZDC)] [] 63 8) (.block 0 (.loop (ZaV Tryz.f92.body 0))) Zrv:=
 loopP ⟨ZhE,ZxN,Tv⟩
def ZhG (l:List (Int×Int)):RT (Option (List (Int×Int))):=
 let x1:=runF false ZeR (λa=>1000000000000) (l,iN (List.length l),0,[],())
 .br (smC l) (.br (!vldB l||Nat.ble (List.length ([]++l)) most) (.br (vldB l) (.Lf (some ([]++l))) (.br (okB x1) (.Lf (some (getO (false,l,iN (List.length l),0,[],()) x1).2.2.2.2.1)) (.Lf none))) (.Lf none)) (.Lf none)
def Zrw (l:List (Int×Int)):List (Int×Int):=getO [] (ZhG l).val
def ZjW (l:List (Int×Int)):Bool:=okB (ZhG l).val
def ZuH:En:=frzE (newE ZiV ZiW Zol (λa=>some (ZjW a)) (λa=>Zrw a))
theorem Zz7:Zd prog 92 (newE ZiV ZiW Zol (λa=>some (ZjW a)) (λa=>Zrw a)):=
 Zi4 (P:=prog) (n:=63) (k:=8) (l:=[(44,ZiS),(149,ZDC)]) (ol:=[(0,Zrv)]) ⟨ZhE,ZxN,Tv⟩ Tryz.func92 rfl (by kernel_rfl) Tryz.call92 ⟨ZuG,Tv⟩ (r:=ZiV) (T:=ZiW) (ts:=Zol) (t:=λa=>ZhG a) (λa=>by kernel_rfl)
theorem Zru:Zd prog 92 ZuH:=Zta Zz7
abbrev Zfp:R:=R.Pq (R.int u16) (R.int u8)
abbrev Zfq:Nat:=106
abbrev Zox:List Sh:=[Sh.one (R.int u16),Sh.one (R.sl (R.int u8))]
def ZD4:LS:={n:=27,Sl:=[(0,.code (Sh.one (R.int u16))),(1,.code (Sh.one (R.sl (R.int u8)))),(5,.tip 0),(8,.code (Sh.one (R.int i64))),(9,.code (Sh.one (R.int i64)))],Bx:=[],Sg:=[⟨(R.Pq (R.int u16) (R.int u8)),106,true⟩]}
def ZeS (a:QT22):RT (Option (Go1 (QT22))):=
 let x1:List (Int×Int):=a.2.2.2.2.1++[(u16.wrap (a.1+u16.wrap a.2.2.2.1),R.get (R.int u8) a.2.1 a.2.2.2.1)]
 let x2:= !Ze a.2.2.2.1 (List.length a.2.1)||Nat.ble (List.length x1) most
 .br (decide (a.2.2.2.1<a.2.2.1)) (.br (!x2||Ze a.2.2.2.1 (List.length a.2.1)) (.br (x2) (.Lf (some (Go1.cont (a.1,a.2.1,a.2.2.1,i64.wrap (a.2.2.2.1+1),x1,PUnit.unit)))) (.Lf none)) (.Lf none)) (.Lf (some (Go1.brk (a.1,a.2.1,a.2.2.1,a.2.2.2.1,a.2.2.2.2.1,PUnit.unit))))
def Zrx:Ora:=Zdo false ZD4 ZeS (λa=>1000000000000)
theorem Zvl:Zb9 (envX prog [(92,ZuH)] [] 127 8) (.block 0 (.loop (ZaV Tryz.f32.body 0))) Zrx:=
 loopP ⟨Zru,Tv⟩
def ZkB (t:Int) (b:List Int):RT (Option (List (Int×Int))):=
 let x1:=runF false ZeS (λa=>1000000000000) (t,b,iN (List.length b),0,[],())
 let x2:List (Int×Int):=(getO (false,t,b,iN (List.length b),0,[],()) x1).2.2.2.2.2.1
 .br (okB x1) (.br (ZjW x2) (.Lf (some (Stg.l (newG ZiV ZiW (Zrw x2))))) (.Lf none)) (.Lf none)
def ZD5 (t:Int) (b:List Int):List (Int×Int):=getO [] (ZkB t b).val
def Zvm (t:Int) (b:List Int):Bool:=okB (ZkB t b).val
theorem ZAk:Zd prog 32 (newE Zfp Zfq Zox (λa=>some (Zvm a.1 a.2)) (λa=>ZD5 a.1 a.2)):=
 Zi4 (P:=prog) (n:=127) (k:=8) (l:=[(92,ZuH)]) (ol:=[(0,Zrx)]) ⟨Zru,Tv⟩ Tryz.func32 rfl (by kernel_rfl) Tryz.call32 ⟨Zvl,Tv⟩ (r:=Zfp) (T:=Zfq) (ts:=Zox) (t:=λa=>ZkB a.1 a.2) (λa=>by kernel_rfl)
end
end Go.Proofs.YtghoimllhpjkjaaGreat
open Go Go.S3 Go.Proofs Go.Proofs.Cells
namespace Go.Proofs.YtghoimllhpjkjaaGreat
noncomputable section
theorem ZDf (m:List Cell) (c:Cell) (hv:Vld m) (hm:m.length+1<=most):ZxR m c=true/\ZHA m c=putX m c:=by have h:=ZjB m c hv hm;have e:ZxO m c=ZmJ m c:=rfl;simp only[ZmK,Zz6,<-e] at h;exact h
theorem ZzP (l:List Cell) (hl:l.length+1<=most):ZjW l=true/\Zrw l=normX l:=by
 have hms:=mst;have hs:smC l=true:=(ZqO.2 hl:sm l=true);have hv:(ZhG l).val=some (normX l):=by
  cases hb:vldB l with
  |true=>
   have e:Nat.ble l.length most=true:=by rw[YT];omega
   simp only[ZhG,RT.val,hs,hb,List.nil_append,e,Ya,Yg,Yn,Zm1 (ZwT.1 hb)]
  |false=>
   obtain⟨r,hr,h1,i,hR⟩:=Zaj (fl:=false) (t:=ZeR) (fuel:=λa=>1000000000000)
    (λa=>∃i:Nat,i<=l.length/\a=(l,(l.length:Int),(i:Int),normX (l.take i),()))
    (λa=>Int.toNat (a.2.1-a.2.2.1)) (λr=>r.1=false/\∃i:Nat,r.2=(l,(l.length:Int),(i:Int),normX l,()))
    (by
     rintro a ⟨i,hi,rfl⟩;by_cases hlt:i<l.length
     ·left;have d:decide ((i:Int)<(l.length:Int))=true:=by simpa using hlt
      have r1:=ZdI l i hlt;have hlen:=Zdj (l.take i);rw[Y2] at hlen;have hp:=ZDf (normX (l.take i)) (el l i) (ZgZ _) (by omega);refine⟨_,?_,⟨i+1,hlt,rfl⟩,by simp only;omega⟩;rw[ZtX l i hlt,Zm0];simp only[ZeR,RT.val,d,r1,Zir,hp.1,hp.2,Ya,Ye,ZtD i (by omega)]
     ·right;left;have d:decide ((i:Int)<(l.length:Int))=false:=by simpa using hlt
      have e:l.take i=l:=Yao (by omega);rw[e]
      exact⟨_,by simp only[ZeR,RT.val,d,Yb],rfl,i,rfl⟩)
    (l,iN l.length,0,[],()) ⟨0,Yo _,rfl⟩ (by simp only[iN];omega)
   obtain⟨r1,r2⟩:=r;simp only at h1 hR;subst h1 hR;simp only[ZhG,RT.val,hs,hb,hr,okB,getO,Ya,Yb,Yq,YC]
 exact⟨by simp only[ZjW,hv];rfl,by simp only[Zrw,hv,getO]⟩
theorem ZzQ (t:Int) (b:List Int) (hb:b.length+1<=most):Zvm t b=true/\ZD5 t b=Zl6 t b:=by
 have hms:=mst;obtain⟨r,hr,h1,hR⟩:=Zaj (fl:=false) (t:=ZeS) (fuel:=λa=>1000000000000)
  (λa=>∃i:Nat,i<=b.length/\a=(t,b,(b.length:Int),(i:Int),Zls t b i,()))
  (λa=>Int.toNat (a.2.2.1-a.2.2.2.1)) (λr=>r.1=false/\r.2=(t,b,(b.length:Int),(b.length:Int),Zls t b b.length,()))
  (by
   rintro a ⟨i,hi,rfl⟩;by_cases hlt:i<b.length
   ·left;have d:decide ((i:Int)<(b.length:Int))=true:=by simpa using hlt
    have r1:=ZdI b i hlt;have hl:∀x:Cell,Nat.ble (Zls t b i++[x]).length most=true:=λx=>by rw[YT,Yf,Zlr];simp only[List.length_singleton];omega
    refine⟨_,?_,⟨i+1,hlt,rfl⟩,by simp only;omega⟩;rw[ZBv];have g:=get_d b i;simp only[ZeS,RT.val,d,r1,g,hl,Ya,Yg,Yn,ZtD i (by omega)]
   ·right;left;have d:decide ((i:Int)<(b.length:Int))=false:=by simpa using hlt
    have e:i=b.length:=by omega
    subst e
    exact⟨_,by simp only[ZeS,RT.val,d,Yb],rfl,rfl⟩)
  (t,b,iN b.length,0,[],()) ⟨0,Yo _,rfl⟩ (by simp only[iN];omega)
 obtain⟨r1,r2⟩:=r;simp only at h1 hR;subst h1 hR;have hn:=ZzP (Zls t b b.length) (by rw[Zlr];exact hb);have hv:(ZkB t b).val=some (Zl6 t b):=by simp only[ZkB,RT.val,hr,okB,getO,Ya,hn.1,hn.2,Zl6]
 exact⟨by simp only[Zvm,hv];rfl,by simp only[ZD5,hv,getO]⟩
def Zoy:En:=frzE (newE Zfp Zfq Zox (λa=>some (smB a.2)) (λa=>Zl6 a.1 a.2))
theorem ZmO:Zd Tryz.prog 32 Zoy:=Zta (ZBj ZAk λa _ h=>by
 have hb:smB a.2=true:=by cases hq:smB a.2 with
  |true=>rfl
  |false=>rw[hq] at h;exact absurd rfl h
 obtain⟨h1,h2⟩:=ZzQ a.1 a.2 (ZqO.1 hb)
 exact⟨by rw[h1];simp,h2⟩)
abbrev Zv6:R:=R.Pq (R.sl (R.int i64)) (R.int i64)
abbrev ZFl:List Sh:=[]
abbrev Zv5:Rs:=Rs.one (Sh.one R.bool)
def ZyR (s:List Int×Int):RT (Option (Bool×List Int×Int)):=
 .br (Zj s 2) (.Lf (some (((Zb s 2).1==1,(Zb s 2).2)))) (.Lf none)
def Z6 (s:List Int×Int):Bool×List Int×Int:=getO (Zv5.Df,Zv6.Df) (ZyR s).val
def ZaS (s:List Int×Int):Bool:=okB (ZyR s).val
def ZJY:En:=boxE Zv6 ZFl Zv5 (λa=>some (ZaS a.1)) (λa=>Z6 a.1)
theorem ZIf:Zd prog 74 ZJY:=
 ZbI (P:=prog) (n:=7) (k:=8) (l:=[(46,ZbZ)]) (ol:=[]) ⟨ZaI,Tv⟩ Tryz.func74 rfl (by kernel_rfl) Tryz.call74 trivial (rb:=Zv6) (ts:=ZFl) (rs:=Zv5) (t:=λa=>ZyR a.1) (λa=>by kernel_rfl)
abbrev Zd0:R:=R.Pq (R.int u16) (R.Pq (R.int u16) (R.Pq R.bool (R.int i64)))
abbrev Zd1:Nat:=102
abbrev Zfy:R:=R.Pq (R.sl (R.int i64)) (R.int i64)
abbrev ZhQ:List Sh:=[Sh.one (R.int i64)]
def Zv0:LS:={n:=44,Sl:=[(0,.fix (A.loc 0 0)),(5,.tip 0),(6,.code (Sh.one (R.int i64)))],Bx:=[[.many (R.Pq (R.sl (R.int i64)) (R.int i64))]],Sg:=[⟨(R.Pq (R.int u16) (R.Pq (R.int u16) (R.Pq R.bool (R.int i64)))),102,false⟩]}
def Zdk (a:QT14):RT (Option (Go1 (QT14))):=
 let x1:= !Zj (Zba a.2.1).2 6||Ze (Zb (Zba a.2.1).2 6).1 (List.length [0,3,15,255,4095,65535])
 let x2:= !x1
 let x3:= !Zj (Zb (Zb (Zba a.2.1).2 6).2 3).2 5
 let x4:Int:=(Zb (Zb (Zb (Zba a.2.1).2 6).2 3).2 5).1
 let x5:=Ze x4 (List.length [0,0,1,2,5])
 let x6:=i64.wrap (i64.wrap (Zba a.2.1).1+R.get (R.int i64) [0,3,15,255,4095,65535] (Zb (Zba a.2.1).2 6).1)
 let x7:List (QT9):=a.2.2.1++[((Zba a.2.1).1,u16.wrap (if 65535<x6 then 65535 else x6),decide ((Zb (Zb (Zba a.2.1).2 6).2 3).1>0),R.get (R.int i64) [0,0,1,2,5] x4)]
 let x8:= !Zj (Zb (Zba a.2.1).2 6).2 3||(x3||(!x5||Nat.ble (List.length x7) most))
 let x9:= !x8
 let x10:= !Zj (Zb (Zba a.2.1).2 6).2 3||(x3||x5)
 let x11:= !x10
 let x12:= !Zj (Zb (Zba a.2.1).2 6).2 3||Zj (Zb (Zb (Zba a.2.1).2 6).2 3).2 5
 .br (decide (a.1>0)) (.br (!ZeB a.2.1||(x2||(!Zj (Zba a.2.1).2 6||(x9||(x11||(!x12||Zj (Zb (Zba a.2.1).2 6).2 3)))))) (.br (!ZeB a.2.1||(x2||(!Zj (Zba a.2.1).2 6||(x9||(x11||x12))))) (.br (!ZeB a.2.1||(x2||(!Zj (Zba a.2.1).2 6||(x9||x10)))) (.br (!ZeB a.2.1||(x2||(!Zj (Zba a.2.1).2 6||x8))) (.br (!ZeB a.2.1||(x2||Zj (Zba a.2.1).2 6)) (.br (!ZeB a.2.1||x1) (.br (ZeB a.2.1) (.Lf (some (Go1.cont (i64.wrap (a.1-1),(Zb (Zb (Zb (Zba a.2.1).2 6).2 3).2 5).2,x7,PUnit.unit)))) (.Lf none)) (.Lf none)) (.Lf none)) (.Lf none)) (.Lf none)) (.Lf none)) (.Lf none)) (.Lf (some (Go1.brk (a.1,a.2.1,a.2.2.1,PUnit.unit))))
def Zk2:Ora:=Zdo false Zv0 Zdk (λa=>400)
theorem ZpE:Zb9 (envX prog [(46,ZbZ),(137,ZFd)] [] 511 8) (.block 0 (.loop (ZaV Tryz.f151.body 0))) Zk2:=
 loopP ⟨ZaI,ZyN,Tv⟩
def ZeY (s:List Int×Int) (n:Int):RT (Option (List (QT9)×List Int×Int)):=
 let x1:QT14:=((Zb s (i64.wrap (n+1))).1,(Zb s (i64.wrap (n+1))).2,[],())
 let x2:=runF false Zdk (λa=>400) x1
 let x3:(List Int×Int)×List (QT9)×PUnit:=(getO (false,x1) x2).2.2
 .br (Zj s (i64.wrap (n+1))) (.br (okB x2) (.Lf (some ((x3.2.1,x3.1)))) (.Lf none)) (.Lf none)
def ZaP (s:List Int×Int) (n:Int):List (QT9)×List Int×Int:=getO ([],Zfy.Df) (ZeY s n).val
def Zcz (s:List Int×Int) (n:Int):Bool:=okB (ZeY s n).val
def Zsw:En:=frzE (ZBl Zfy Zd0 Zd1 ZhQ (λa=>some (Zcz a.1 a.2)) (λa=>ZaP a.1 a.2))
theorem Zsx:Zd prog 151 (ZBl Zfy Zd0 Zd1 ZhQ (λa=>some (Zcz a.1 a.2)) (λa=>ZaP a.1 a.2)):=
 ZFb (P:=prog) (n:=511) (k:=8) (l:=[(46,ZbZ),(137,ZFd)]) (ol:=[(0,Zk2)]) ⟨ZaI,ZyN,Tv⟩ Tryz.func151 rfl (by kernel_rfl) Tryz.call151 ⟨ZpE,Tv⟩ (rb:=Zfy) (r:=Zd0) (T:=Zd1) (ts:=ZhQ) (t:=λa=>ZeY a.1 a.2) (λa=>by kernel_rfl)
theorem ZvY:Zd prog 151 Zsw:=Zta Zsx
abbrev ZFj:R:=R.Pq (R.sl (R.int i64)) (R.int i64)
abbrev ZJX:List Sh:=[]
abbrev ZFi:Rs:=Rs.one (Sh.one rcRG)
def ZFh (s:List Int×Int):RT (Option (List (QT9)×List Int×Int)):=
 let x1:List (QT9):=Stg.l (newG Zd0 Zd1 (ZaP s 2).1)++[(0,65535,true,i64.wrap (Int.tdiv (Zb (ZaP s 2).2 3).1 2))]
 .br (!Zcz s 2||(!Zj (ZaP s 2).2 3||Nat.ble (List.length x1) most)) (.br (!Zcz s 2||Zj (ZaP s 2).2 3) (.br (Zcz s 2) (.Lf (some ((x1,(Zb (ZaP s 2).2 3).2)))) (.Lf none)) (.Lf none)) (.Lf none)
def nMap (s:List Int×Int):List (QT9)×List Int×Int:=getO (ZFi.Df,ZFj.Df) (ZFh s).val
def ZBn (s:List Int×Int):Bool:=okB (ZFh s).val
def ZLy:En:=boxE ZFj ZJX ZFi (λa=>some (ZBn a.1)) (λa=>nMap a.1)
theorem ZFf:Zd prog 95 ZLy:=
 ZbI (P:=prog) (n:=7) (k:=8) (l:=[(46,ZbZ),(151,Zsw)]) (ol:=[]) ⟨ZaI,ZvY,Tv⟩ Tryz.func95 rfl (by kernel_rfl) Tryz.call95 trivial (rb:=ZFj) (ts:=ZJX) (rs:=ZFi) (t:=λa=>ZFh a.1) (λa=>by kernel_rfl)
abbrev ZhS:R:=R.Pq (R.sl (R.int i64)) (R.int i64)
abbrev Zm3:List Sh:=[Sh.one (R.int i64)]
abbrev ZhR:Rs:=Rs.one (Sh.one (R.sl (R.int u8)))
def Zv2:LS:={n:=75,Sl:=[(0,.fix (A.loc 0 0)),(5,.tip 0),(6,.code (Sh.one (R.int i64)))],Bx:=[[.many (R.Pq (R.sl (R.int i64)) (R.int i64))]],Sg:=[⟨(R.int u8),5,true⟩]}
def Zce (a:QT20):RT (Option (Go1 (QT20))):=
 let x1:=Ze (Zb (Zb a.2.1 8).2 4).1 (List.length [33,49,1,17])
 let x2:= !x1
 let x3:=Zj (Zb (Zb (Zb a.2.1 8).2 4).2 256).2 4
 let x4:= !x3
 let x5:=Zb (Zb (Zb (Zb a.2.1 8).2 4).2 256).2 4
 let x6:=x5.1
 let x7:=Ze x6 (List.length [0,0,1,255])
 let x8:List Int:=a.2.2.1++[R.get (R.int u8) [33,49,1,17] (Zb (Zb a.2.1 8).2 4).1,u8.wrap (Zb (Zb (Zb a.2.1 8).2 4).2 256).1,R.get (R.int u8) [0,0,1,255] x6]
 let x9:= !(Zb a.2.1 8).1==0||(!Zj (Zb a.2.1 8).2 4||(x2||(!Zj (Zb (Zb a.2.1 8).2 4).2 256||(x4||(!x7||Nat.ble (List.length x8) most)))))
 let x10:= !x9
 let x11:= !(Zb a.2.1 8).1==0||(!Zj (Zb a.2.1 8).2 4||(x2||(!Zj (Zb (Zb a.2.1 8).2 4).2 256||(x4||x7))))
 let x12:= !x11
 let x13:= !(Zb a.2.1 8).1==0||(!Zj (Zb a.2.1 8).2 4||(x2||(!Zj (Zb (Zb a.2.1 8).2 4).2 256||x3)))
 let x14:= !x13
 let x15:= !(Zb a.2.1 8).1==0||(!Zj (Zb a.2.1 8).2 4||(x2||Zj (Zb (Zb a.2.1 8).2 4).2 256))
 let x16:= !x15
 let x17:= !(Zb a.2.1 8).1==0||(!Zj (Zb a.2.1 8).2 4||x1)
 let x18:= !x17
 let x19:= !(Zb a.2.1 8).1==0||Zj (Zb a.2.1 8).2 4
 let x20:= !x19
 let x21:List Int:=a.2.2.1++[62,(Zb8 (Zb a.2.1 8).2).1,211,u8.wrap (Zb (Zb8 (Zb a.2.1 8).2).2 8).1]
 let x22:=(Zb a.2.1 8).1==0||(!(Zb a.2.1 8).1==1||(!Ze1 (Zb a.2.1 8).2||(!Zj (Zb8 (Zb a.2.1 8).2).2 8||Nat.ble (List.length x21) most)))
 let x23:= !x22
 let x24:=(Zb a.2.1 8).1==0||(!(Zb a.2.1 8).1==1||(!Ze1 (Zb a.2.1 8).2||Zj (Zb8 (Zb a.2.1 8).2).2 8))
 let x25:= !x24
 let x26:=(Zb a.2.1 8).1==0||(!(Zb a.2.1 8).1==1||Ze1 (Zb a.2.1 8).2)
 let x27:= !x26
 let x28:=(Zb a.2.1 8).1==0||((Zb a.2.1 8).1==1||(!(Zb a.2.1 8).1==2||Nat.ble (List.length (a.2.2.1++[251])) most))
 let x29:= !x28
 let x30:List Int:=a.2.2.1++[62,u8.wrap (i64.wrap (16+(Zb (Zb a.2.1 8).2 16).1)),211,0,62,(Zb8 (Zb (Zb a.2.1 8).2 16).2).1,211,1,62,0,211,1]
 let x31:=(Zb a.2.1 8).1==0||((Zb a.2.1 8).1==1||((Zb a.2.1 8).1==2||(!(Zb a.2.1 8).1==3||(!Zj (Zb a.2.1 8).2 16||(!Ze1 (Zb (Zb a.2.1 8).2 16).2||Nat.ble (List.length x30) most)))))
 let x32:= !x31
 let x33:=(Zb a.2.1 8).1==0||((Zb a.2.1 8).1==1||((Zb a.2.1 8).1==2||(!(Zb a.2.1 8).1==3||(!Zj (Zb a.2.1 8).2 16||Ze1 (Zb (Zb a.2.1 8).2 16).2))))
 let x34:= !x33
 let x35:=(Zb a.2.1 8).1==0||((Zb a.2.1 8).1==1||((Zb a.2.1 8).1==2||(!(Zb a.2.1 8).1==3||Zj (Zb a.2.1 8).2 16)))
 let x36:= !x35
 let x37:= !Zj (Zb (Zaa (Zb a.2.1 8).2).2 64).2 4
 let x38:Int:=(Zb (Zb (Zaa (Zb a.2.1 8).2).2 64).2 4).1
 let x39:=Ze x38 (List.length [0,0,1,255])
 let x40:List Int:=a.2.2.1++[(Zaa (Zb a.2.1 8).2).1,u8.wrap (Zb (Zaa (Zb a.2.1 8).2).2 64).1,R.get (R.int u8) [0,0,1,255] x38]
 let x41:=(Zb a.2.1 8).1==0||((Zb a.2.1 8).1==1||((Zb a.2.1 8).1==2||((Zb a.2.1 8).1==3||(!Zbq (Zb a.2.1 8).2||(!Zj (Zaa (Zb a.2.1 8).2).2 64||(x37||(!x39||Nat.ble (List.length x40) most)))))))
 let x42:= !x41
 let x43:=(Zb a.2.1 8).1==0||((Zb a.2.1 8).1==1||((Zb a.2.1 8).1==2||((Zb a.2.1 8).1==3||(!Zbq (Zb a.2.1 8).2||(!Zj (Zaa (Zb a.2.1 8).2).2 64||(x37||x39))))))
 let x44:= !x43
 let x45:=(Zb a.2.1 8).1==0||((Zb a.2.1 8).1==1||((Zb a.2.1 8).1==2||((Zb a.2.1 8).1==3||(!Zbq (Zb a.2.1 8).2||(!Zj (Zaa (Zb a.2.1 8).2).2 64||Zj (Zb (Zaa (Zb a.2.1 8).2).2 64).2 4)))))
 let x46:= !x45
 let x47:=(Zb a.2.1 8).1==0||((Zb a.2.1 8).1==1||((Zb a.2.1 8).1==2||((Zb a.2.1 8).1==3||(!Zbq (Zb a.2.1 8).2||Zj (Zaa (Zb a.2.1 8).2).2 64))))
 let x48:=x10||(x12||(x14||(x16||(x18||(x20||(x23||(x25||(x27||(x29||(x32||(x34||(x36||(x42||(x44||(x46||(!x47||((Zb a.2.1 8).1==0||((Zb a.2.1 8).1==1||((Zb a.2.1 8).1==2||((Zb a.2.1 8).1==3||Zbq (Zb a.2.1 8).2))))))))))))))))))))
 let x49:= !x48
 let x50:=x10||(x12||(x14||(x16||(x18||(x20||(x23||(x25||(x27||(x29||(x32||(x34||(x36||(x42||(x44||(x46||x47)))))))))))))))
 let x51:= !x50
 let x52:=x10||(x12||(x14||(x16||(x18||(x20||(x23||(x25||(x27||(x29||(x32||(x34||(x36||(x42||(x44||x45))))))))))))))
 let x53:= !x52
 let x54:=x10||(x12||(x14||(x16||(x18||(x20||(x23||(x25||(x27||(x29||(x32||(x34||(x36||(x42||x43)))))))))))))
 let x55:= !x54
 let x56:=x10||(x12||(x14||(x16||(x18||(x20||(x23||(x25||(x27||(x29||(x32||(x34||(x36||x41))))))))))))
 let x57:= !x56
 let x58:=x10||(x12||(x14||(x16||(x18||(x20||(x23||(x25||(x27||(x29||(x32||(x34||x35)))))))))))
 let x59:= !x58
 let x60:=x10||(x12||(x14||(x16||(x18||(x20||(x23||(x25||(x27||(x29||(x32||x33))))))))))
 let x61:= !x60
 let x62:=x10||(x12||(x14||(x16||(x18||(x20||(x23||(x25||(x27||(x29||x31)))))))))
 let x63:= !x62
 let x64:=x10||(x12||(x14||(x16||(x18||(x20||(x23||(x25||(x27||x28))))))))
 let x65:= !x64
 let x66:=x10||(x12||(x14||(x16||(x18||(x20||(x23||(x25||x26)))))))
 let x67:= !x66
 let x68:=x10||(x12||(x14||(x16||(x18||(x20||(x23||x24))))))
 let x69:= !x68
 let x70:=x10||(x12||(x14||(x16||(x18||(x20||x22)))))
 let x71:= !x70
 let x72:=x10||(x12||(x14||(x16||(x18||x19))))
 let x73:= !x72
 let x74:=x10||(x12||(x14||(x16||x17)))
 let x75:= !x74
 let x76:=x10||(x12||(x14||x15))
 let x77:= !x76
 let x78:=x10||(x12||x13)
 let x79:= !x78
 let x80:=x10||x11
 let x81:List Int×Int:=(Zb (Zb (Zaa (Zb a.2.1 8).2).2 64).2 4).2
 .br (decide (a.1>0)) (.br (!Zj a.2.1 8||(x49||(x51||(x53||(x55||(x57||(x59||(x61||(x63||(x65||(x67||(x69||(x71||(x73||(x75||(x77||(x79||(!x80||x9)))))))))))))))))) (.br (!Zj a.2.1 8||(x49||(x51||(x53||(x55||(x57||(x59||(x61||(x63||(x65||(x67||(x69||(x71||(x73||(x75||(x77||(x79||x80))))))))))))))))) (.br (!Zj a.2.1 8||(x49||(x51||(x53||(x55||(x57||(x59||(x61||(x63||(x65||(x67||(x69||(x71||(x73||(x75||(x77||x78)))))))))))))))) (.br (!Zj a.2.1 8||(x49||(x51||(x53||(x55||(x57||(x59||(x61||(x63||(x65||(x67||(x69||(x71||(x73||(x75||x76))))))))))))))) (.br (!Zj a.2.1 8||(x49||(x51||(x53||(x55||(x57||(x59||(x61||(x63||(x65||(x67||(x69||(x71||(x73||x74)))))))))))))) (.br (!Zj a.2.1 8||(x49||(x51||(x53||(x55||(x57||(x59||(x61||(x63||(x65||(x67||(x69||(x71||x72))))))))))))) (.br (!Zj a.2.1 8||(x49||(x51||(x53||(x55||(x57||(x59||(x61||(x63||(x65||(x67||(x69||x70)))))))))))) (.br (!Zj a.2.1 8||(x49||(x51||(x53||(x55||(x57||(x59||(x61||(x63||(x65||(x67||x68))))))))))) (.br (!Zj a.2.1 8||(x49||(x51||(x53||(x55||(x57||(x59||(x61||(x63||(x65||x66)))))))))) (.br (!Zj a.2.1 8||(x49||(x51||(x53||(x55||(x57||(x59||(x61||(x63||x64))))))))) (.br (!Zj a.2.1 8||(x49||(x51||(x53||(x55||(x57||(x59||(x61||x62)))))))) (.br (!Zj a.2.1 8||(x49||(x51||(x53||(x55||(x57||(x59||x60))))))) (.br (!Zj a.2.1 8||(x49||(x51||(x53||(x55||(x57||x58)))))) (.br (!Zj a.2.1 8||(x49||(x51||(x53||(x55||x56))))) (.br (!Zj a.2.1 8||(x49||(x51||(x53||x54)))) (.br (!Zj a.2.1 8||(x49||(x51||x52))) (.br (!Zj a.2.1 8||(x49||x50)) (.br (!Zj a.2.1 8||x48) (.br (Zj a.2.1 8) (.br ((Zb a.2.1 8).1==0) (.Lf (some (Go1.cont (i64.wrap (a.1-1),x5.2,x8,PUnit.unit)))) (.br ((Zb a.2.1 8).1==1) (.Lf (some (Go1.cont (i64.wrap (a.1-1),(Zb (Zb8 (Zb a.2.1 8).2).2 8).2,x21,PUnit.unit)))) (.br ((Zb a.2.1 8).1==2) (.Lf (some (Go1.cont (i64.wrap (a.1-1),(Zb a.2.1 8).2,a.2.2.1++[251],PUnit.unit)))) (.Lf (some (Go1.cont (i64.wrap (a.1-1),(bif (Zb a.2.1 8).1==3 then (Zb8 (Zb (Zb a.2.1 8).2 16).2).2.1 else x81.1,bif (Zb a.2.1 8).1==3 then (Zb8 (Zb (Zb a.2.1 8).2 16).2).2.2 else x81.2),bif (Zb a.2.1 8).1==3 then x30 else x40,PUnit.unit))))))) (.Lf none)) (.Lf none)) (.Lf none)) (.Lf none)) (.Lf none)) (.Lf none)) (.Lf none)) (.Lf none)) (.Lf none)) (.Lf none)) (.Lf none)) (.Lf none)) (.Lf none)) (.Lf none)) (.Lf none)) (.Lf none)) (.Lf none)) (.Lf none)) (.Lf none)) (.Lf (some (Go1.brk (a.1,a.2.1,a.2.2.1,PUnit.unit))))
def Zk4:Ora:=Zdo false Zv2 Zce (λa=>400)
theorem ZpF:Zb9 (envX prog [(46,ZbZ),(108,ZsC),(109,Zfz)] [] 9511883889056940159 8) (.block 0 (.loop (ZaV Tryz.f47.body 0))) Zk4:=
 loopP ⟨ZaI,Zi5,Zd2,Tv⟩
def ZeZ (s:List Int×Int) (n:Int):RT (Option (List Int×List Int×Int)):=
 let x1:QT20:=((Zb s (i64.wrap (n+1))).1,(Zb s (i64.wrap (n+1))).2,[],())
 let x2:=runF false Zce (λa=>400) x1
 let x3:(List Int×Int)×List Int×PUnit:=(getO (false,x1) x2).2.2
 .br (Zj s (i64.wrap (n+1))) (.br (okB x2) (.Lf (some ((x3.2.1,x3.1)))) (.Lf none)) (.Lf none)
def Zbp (s:List Int×Int) (n:Int):List Int×List Int×Int:=getO (ZhR.Df,ZhS.Df) (ZeZ s n).val
def Ze0 (s:List Int×Int) (n:Int):Bool:=okB (ZeZ s n).val
def Zk5:En:=boxE ZhS Zm3 ZhR (λa=>some (Ze0 a.1 a.2)) (λa=>Zbp a.1 a.2)
theorem Zk3:Zd prog 47 Zk5:=
 ZbI (P:=prog) (n:=9511883889056940159) (k:=8) (l:=[(46,ZbZ),(108,ZsC),(109,Zfz)]) (ol:=[(0,Zk4)]) ⟨ZaI,Zi5,Zd2,Tv⟩ Tryz.func47 rfl (by kernel_rfl) Tryz.call47 ⟨ZpF,Tv⟩ (rb:=ZhS) (ts:=Zm3) (rs:=ZhR) (t:=λa=>ZeZ a.1 a.2) (λa=>by kernel_rfl)
abbrev ZpJ:R:=R.Pq (R.sl (R.int i64)) (R.int i64)
abbrev ZyT:List Sh:=[]
abbrev ZpI:Rs:=Rs.one (Sh.agg (R.Pq (R.int i64) (R.Pq rcRG (R.Pq (R.int i64) (R.Pq (R.int u8) (R.Pq (R.int u8) (R.Pq R.bool rcCE)))))))
def ZFq:LS:={n:=50,Sl:=[(0,.fix (A.loc 0 0)),(2,.fix (A.loc 1 0)),(3,.fix (A.loc 2 0)),(4,.tip 0),(5,.code (Sh.one (R.int i64)))],Bx:=[[.many (R.Pq (R.sl (R.int i64)) (R.int i64))],[.many (R.Pq (R.int i64) (R.Pq rcRG (R.Pq (R.int i64) (R.Pq (R.int u8) (R.Pq (R.int u8) (R.Pq R.bool rcCE))))))],[.many (R.Pq (R.int i64) (R.Pq rcRG (R.Pq (R.int i64) (R.Pq (R.int u8) (R.Pq (R.int u8) (R.Pq R.bool rcCE))))))]],Sg:=[⟨R.Pq (R.int u16) (R.int u8),106,true⟩]}
def Zd4 (a:QT13):RT (Option (Go1 (QT13))):=
 let x1:=Ze (Zb a.2.1 6).1 (List.length [36,60,52,44,56,32])
 let x2:= !x1
 let x3:List Int:=[(Zaa (Zb a.2.1 6).2).1,251,201]
 let x4:=smB x3
 let x5:List (Int×Int):=a.2.2.2.2.1++Stg.l (newG Zfp Zfq (Zl6 (u16.wrap (R.get (R.int i64) [36,60,52,44,56,32] (Zb a.2.1 6).1)) x3))
 let x6:= !Zj a.2.1 6||(x2||(!Zbq (Zb a.2.1 6).2||(!x4||Nat.ble (List.length x5) most)))
 let x7:= !x6
 let x8:= !Zj a.2.1 6||(x2||(!Zbq (Zb a.2.1 6).2||x4))
 let x9:= !x8
 let x10:= !Zj a.2.1 6||(x2||Zbq (Zb a.2.1 6).2)
 let x11:= !x10
 let x12:= !Zj a.2.1 6||x1
 .br (decide (a.1>0)) (.br (x7||(x9||(x11||(!x12||Zj a.2.1 6)))) (.br (x7||(x9||(x11||x12))) (.br (x7||(x9||x10)) (.br (x7||x8) (.br (x6) (.Lf (some (Go1.cont (i64.wrap (a.1-1),(Zaa (Zb a.2.1 6).2).2,a.2.2.1,a.2.2.2.1,x5,PUnit.unit)))) (.Lf none)) (.Lf none)) (.Lf none)) (.Lf none)) (.Lf none)) (.Lf (some (Go1.brk (a.1,a.2.1,a.2.2.1,a.2.2.2.1,a.2.2.2.2.1,PUnit.unit))))
def ZsE:Ora:=Zdo false ZFq Zd4 (λa=>400)
theorem Zwb:Zb9 (envX prog [(32,Zoy),(46,ZbZ),(47,Zk5),(72,ZFn),(92,Zom),(95,ZLy),(108,ZsC),(109,Zfz)] [] 63 8) (.block 0 (.loop (ZaV Tryz.f62.body 0))) ZsE:=
 loopP ⟨ZmO,ZaI,Zk3,ZyS,ZjX,ZFf,Zi5,Zd2,Tv⟩
def Zlg (s:List Int×Int):RT (Option (BRDT×List Int×Int)):=
 let x1:=(Zb (Zb (Zb (nMap (ZaA s).2).2 3).2 4).2 6).1==0
 let x2:= !x1
 let x3:List Int×Int:=(Zb (Zb (Zb (nMap (ZaA s).2).2 3).2 4).2 6).2
 let x4:=Ze1 x3
 let x5:=Zb8 x3
 let x6:=x5.2
 let x7:=Zb8 x6
 let x8:=x7.2
 let x9:List Int×Int:=(bif x1 then x8.1 else x3.1,bif x1 then x8.2 else x3.2)
 let x10:=Ze0 x9 12
 let x11:=Zbp x9 12
 let x12:=x11.1
 let x13:=x11.2
 let x14:=Zb x13 4
 let x15:QT13:=(x14.1,x14.2,(0,[],0,0,0,false,[]),((ZaA s).1,(nMap (ZaA s).2).1,(Zb (nMap (ZaA s).2).2 3).1,bif x1 then x5.1 else 0,bif x1 then x7.1 else 4,(Zb (Zb (nMap (ZaA s).2).2 3).2 4).1==0,[]),Stg.l (newG Zfp Zfq (Zl6 0 x12)),())
 let x16:=runF false Zd4 (λa=>400) x15
 let x17:(List Int×Int)×BRDT×BRDT×List (Int×Int)×PUnit:=(getO (false,x15) x16).2.2
 let x18:=x17.2.2
 let x19:=x18.2.1
 let x20:=x18.1
 let x21:=x20.2
 let x22:=x21.2
 let x23:=x22.2
 let x24:=x23.2
 .br (!Zle s||(!ZBn (ZaA s).2||(!Zj (nMap (ZaA s).2).2 3||Zj (Zb (nMap (ZaA s).2).2 3).2 4))) (.br (!Zle s||(!ZBn (ZaA s).2||Zj (nMap (ZaA s).2).2 3)) (.br (!Zle s||ZBn (ZaA s).2) (.br (Zle s) (.br (Zj (Zb (Zb (nMap (ZaA s).2).2 3).2 4).2 6) (.br (x2||(!x4||Ze1 x6)) (.br (x2||x4) (.br (!x10||smB x12) (.br (x10) (.br (Zj x13 4) (.br (okB x16) (.br (smC x19) (.Lf (some (((x20.1,x21.1,x22.1,x23.1,x24.1,x24.2.1,Cells.normX x19),x17.1)))) (.Lf none)) (.Lf none)) (.Lf none)) (.Lf none)) (.Lf none)) (.Lf none)) (.Lf none)) (.Lf none)) (.Lf none)) (.Lf none)) (.Lf none)) (.Lf none)
def ZF (s:List Int×Int):BRDT×List Int×Int:=getO (ZpI.Df,ZpJ.Df) (Zlg s).val
def ZhU (s:List Int×Int):Bool:=okB (Zlg s).val
def ZFr:En:=boxE ZpJ ZyT ZpI (λa=>some (ZhU a.1)) (λa=>ZF a.1)
theorem ZFp:Zd prog 62 ZFr:=
 ZbI (P:=prog) (n:=63) (k:=8) (l:=[(32,Zoy),(46,ZbZ),(47,Zk5),(72,ZFn),(92,Zom),(95,ZLy),(108,ZsC),(109,Zfz)]) (ol:=[(0,ZsE)]) ⟨ZmO,ZaI,Zk3,ZyS,ZjX,ZFf,Zi5,Zd2,Tv⟩ Tryz.func62 rfl (by kernel_rfl) Tryz.call62 ⟨Zwb,Tv⟩ (rb:=ZpJ) (ts:=ZyT) (rs:=ZpI) (t:=λa=>Zlg a.1) (λa=>by kernel_rfl)
abbrev ZpH:R:=R.Pq (R.sl (R.int i64)) (R.int i64)
abbrev ZyQ:List Sh:=[]
abbrev ZpG:Rs:=Rs.one (Sh.agg ZcE)
def Zlc (s:List Int×Int):RT (Option (INPT×List Int×Int)):=
 let x1:=decide ((Zb s 64).1<30)||(decide ((Zb s 64).1<36)||(decide ((Zb s 64).1<40)||(!decide ((Zb s 64).1<46)||Zj (Zb s 64).2 256)))
 let x2:= !x1
 let x3:=decide ((Zb s 64).1<30)||(decide ((Zb s 64).1<36)||(decide ((Zb s 64).1<40)||(decide ((Zb s 64).1<46)||(decide ((Zb s 64).1<50)||(decide ((Zb s 64).1<53)||(decide ((Zb s 64).1<55)||((Zb s 64).1==55||(!decide ((Zb s 64).1<60)||Zbq (Zb s 64).2))))))))
 let x4:= !x3
 let x5:= !ZaS (Z6 (Z6 (Z6 (Z6 (Zb s 64).2).2).2).2).2
 let x6:List Int×Int:=(Z6 (Z6 (Z6 (Z6 (Z6 (Zb s 64).2).2).2).2).2).2
 let x7:=Zj x6 256
 let x8:=Zb x6 256
 let x9:=x8.2
 let x10:=decide ((Zb s 64).1<30)||(decide ((Zb s 64).1<36)||(decide ((Zb s 64).1<40)||(decide ((Zb s 64).1<46)||(decide ((Zb s 64).1<50)||(decide ((Zb s 64).1<53)||(decide ((Zb s 64).1<55)||((Zb s 64).1==55||(decide ((Zb s 64).1<60)||(!ZaS (Zb s 64).2||(!ZaS (Z6 (Zb s 64).2).2||(!ZaS (Z6 (Z6 (Zb s 64).2).2).2||(!ZaS (Z6 (Z6 (Z6 (Zb s 64).2).2).2).2||(x5||(!x7||Zj x9 256))))))))))))))
 let x11:= !x10
 let x12:=decide ((Zb s 64).1<30)||(decide ((Zb s 64).1<36)||(decide ((Zb s 64).1<40)||(decide ((Zb s 64).1<46)||(decide ((Zb s 64).1<50)||(decide ((Zb s 64).1<53)||(decide ((Zb s 64).1<55)||((Zb s 64).1==55||(decide ((Zb s 64).1<60)||(!ZaS (Zb s 64).2||(!ZaS (Z6 (Zb s 64).2).2||(!ZaS (Z6 (Z6 (Zb s 64).2).2).2||(!ZaS (Z6 (Z6 (Z6 (Zb s 64).2).2).2).2||(x5||x7)))))))))))))
 let x13:= !x12
 let x14:=decide ((Zb s 64).1<30)||(decide ((Zb s 64).1<36)||(decide ((Zb s 64).1<40)||(decide ((Zb s 64).1<46)||(decide ((Zb s 64).1<50)||(decide ((Zb s 64).1<53)||(decide ((Zb s 64).1<55)||((Zb s 64).1==55||(decide ((Zb s 64).1<60)||(!ZaS (Zb s 64).2||(!ZaS (Z6 (Zb s 64).2).2||(!ZaS (Z6 (Z6 (Zb s 64).2).2).2||(!ZaS (Z6 (Z6 (Z6 (Zb s 64).2).2).2).2||ZaS (Z6 (Z6 (Z6 (Z6 (Zb s 64).2).2).2).2).2))))))))))))
 let x15:= !x14
 let x16:=decide ((Zb s 64).1<30)||(decide ((Zb s 64).1<36)||(decide ((Zb s 64).1<40)||(decide ((Zb s 64).1<46)||(decide ((Zb s 64).1<50)||(decide ((Zb s 64).1<53)||(decide ((Zb s 64).1<55)||((Zb s 64).1==55||(decide ((Zb s 64).1<60)||(!ZaS (Zb s 64).2||(!ZaS (Z6 (Zb s 64).2).2||(!ZaS (Z6 (Z6 (Zb s 64).2).2).2||ZaS (Z6 (Z6 (Z6 (Zb s 64).2).2).2).2)))))))))))
 let x17:= !x16
 let x18:=decide ((Zb s 64).1<30)||(decide ((Zb s 64).1<36)||(decide ((Zb s 64).1<40)||(decide ((Zb s 64).1<46)||(decide ((Zb s 64).1<50)||(decide ((Zb s 64).1<53)||(decide ((Zb s 64).1<55)||((Zb s 64).1==55||(decide ((Zb s 64).1<60)||(!ZaS (Zb s 64).2||(!ZaS (Z6 (Zb s 64).2).2||ZaS (Z6 (Z6 (Zb s 64).2).2).2))))))))))
 let x19:= !x18
 let x20:=decide ((Zb s 64).1<30)||(decide ((Zb s 64).1<36)||(decide ((Zb s 64).1<40)||(decide ((Zb s 64).1<46)||(decide ((Zb s 64).1<50)||(decide ((Zb s 64).1<53)||(decide ((Zb s 64).1<55)||((Zb s 64).1==55||(decide ((Zb s 64).1<60)||(!ZaS (Zb s 64).2||ZaS (Z6 (Zb s 64).2).2)))))))))
 let x21:=Zb x9 256
 let x22:=x21.2
 .br (Zj s 64) (.br (x2||(x4||(x11||(x13||(x15||(x17||(x19||(!x20||(decide ((Zb s 64).1<30)||(decide ((Zb s 64).1<36)||(decide ((Zb s 64).1<40)||(decide ((Zb s 64).1<46)||(decide ((Zb s 64).1<50)||(decide ((Zb s 64).1<53)||(decide ((Zb s 64).1<55)||((Zb s 64).1==55||(decide ((Zb s 64).1<60)||ZaS (Zb s 64).2))))))))))))))))) (.br (x2||(x4||(x11||(x13||(x15||(x17||(x19||x20))))))) (.br (x2||(x4||(x11||(x13||(x15||(x17||x18)))))) (.br (x2||(x4||(x11||(x13||(x15||x16))))) (.br (x2||(x4||(x11||(x13||x14)))) (.br (x2||(x4||(x11||x12))) (.br (x2||(x4||x10)) (.br (x2||x3) (.br (x1) (.Lf (some (((bif decide ((Zb s 64).1<30) then ZH.1 else !decide ((Zb s 64).1<36)&&bif decide ((Zb s 64).1<40) then ZH.1 else bif decide ((Zb s 64).1<46) then ZH.1 else bif decide ((Zb s 64).1<50) then ZH.1 else bif decide ((Zb s 64).1<53) then ZH.1 else bif decide ((Zb s 64).1<55) then ZH.1 else bif (Zb s 64).1==55 then ZH.1 else bif decide ((Zb s 64).1<60) then ZH.1 else (Z6 (Zb s 64).2).1,bif decide ((Zb s 64).1<30) then ZH.2.1 else bif decide ((Zb s 64).1<36) then ZH.2.1 else decide ((Zb s 64).1<40)||bif decide ((Zb s 64).1<46) then ZH.2.1 else bif decide ((Zb s 64).1<50) then ZH.2.1 else bif decide ((Zb s 64).1<53) then ZH.2.1 else bif decide ((Zb s 64).1<55) then ZH.2.1 else bif (Zb s 64).1==55 then ZH.2.1 else bif decide ((Zb s 64).1<60) then ZH.2.1 else (Z6 (Z6 (Zb s 64).2).2).1,bif decide ((Zb s 64).1<30) then ZH.2.2.1 else bif decide ((Zb s 64).1<36) then ZH.2.2.1 else bif decide ((Zb s 64).1<40) then ZH.2.2.1 else bif decide ((Zb s 64).1<46) then ZH.2.2.1 else bif decide ((Zb s 64).1<50) then ZH.2.2.1 else bif decide ((Zb s 64).1<53) then ZH.2.2.1 else bif decide ((Zb s 64).1<55) then ZH.2.2.1 else (Zb s 64).1==55||decide ((Zb s 64).1<60)&&ZH.2.2.1,bif decide ((Zb s 64).1<30) then ZH.2.2.2.1 else bif decide ((Zb s 64).1<36) then ZH.2.2.2.1 else bif decide ((Zb s 64).1<40) then ZH.2.2.2.1 else bif decide ((Zb s 64).1<46) then ZH.2.2.2.1 else bif decide ((Zb s 64).1<50) then ZH.2.2.2.1 else bif decide ((Zb s 64).1<53) then (Zb s 64).1==51 else bif decide ((Zb s 64).1<55) then ZH.2.2.2.1 else bif (Zb s 64).1==55 then ZH.2.2.2.1 else bif decide ((Zb s 64).1<60) then ZH.2.2.2.1 else (Z6 (Z6 (Z6 (Zb s 64).2).2).2).1,bif decide ((Zb s 64).1<30) then ZH.2.2.2.2.1 else bif decide ((Zb s 64).1<36) then ZH.2.2.2.2.1 else bif decide ((Zb s 64).1<40) then ZH.2.2.2.2.1 else bif decide ((Zb s 64).1<46) then ZH.2.2.2.2.1 else bif decide ((Zb s 64).1<50) then ZH.2.2.2.2.1 else bif decide ((Zb s 64).1<53) then ZH.2.2.2.2.1 else decide ((Zb s 64).1<55)||bif (Zb s 64).1==55 then ZH.2.2.2.2.1 else decide ((Zb s 64).1<60)&&ZH.2.2.2.2.1,bif decide ((Zb s 64).1<30) then ZH.2.2.2.2.2.1 else bif decide ((Zb s 64).1<36) then ZH.2.2.2.2.2.1 else bif decide ((Zb s 64).1<40) then ZH.2.2.2.2.2.1 else bif decide ((Zb s 64).1<46) then ZH.2.2.2.2.2.1 else bif decide ((Zb s 64).1<50) then Int.tmod (Zb s 64).1 2==0 else bif decide ((Zb s 64).1<53) then ZH.2.2.2.2.2.1 else bif decide ((Zb s 64).1<55) then ZH.2.2.2.2.2.1 else bif (Zb s 64).1==55 then ZH.2.2.2.2.2.1 else bif decide ((Zb s 64).1<60) then ZH.2.2.2.2.2.1 else (Z6 (Z6 (Z6 (Z6 (Zb s 64).2).2).2).2).1,bif decide ((Zb s 64).1<30) then ZH.2.2.2.2.2.2.1 else bif decide ((Zb s 64).1<36) then ZH.2.2.2.2.2.2.1 else bif decide ((Zb s 64).1<40) then ZH.2.2.2.2.2.2.1 else bif decide ((Zb s 64).1<46) then ZH.2.2.2.2.2.2.1 else bif decide ((Zb s 64).1<50) then Int.tmod (Zb s 64).1 2==1 else bif decide ((Zb s 64).1<53) then ZH.2.2.2.2.2.2.1 else bif decide ((Zb s 64).1<55) then ZH.2.2.2.2.2.2.1 else bif (Zb s 64).1==55 then ZH.2.2.2.2.2.2.1 else bif decide ((Zb s 64).1<60) then ZH.2.2.2.2.2.2.1 else (Z6 (Z6 (Z6 (Z6 (Z6 (Zb s 64).2).2).2).2).2).1,bif decide ((Zb s 64).1<30) then ZH.2.2.2.2.2.2.2.1 else bif decide ((Zb s 64).1<36) then ZH.2.2.2.2.2.2.2.1 else bif decide ((Zb s 64).1<40) then ZH.2.2.2.2.2.2.2.1 else bif decide ((Zb s 64).1<46) then ZH.2.2.2.2.2.2.2.1 else bif decide ((Zb s 64).1<50) then ZH.2.2.2.2.2.2.2.1 else decide ((Zb s 64).1<53)||bif decide ((Zb s 64).1<55) then ZH.2.2.2.2.2.2.2.1 else bif (Zb s 64).1==55 then ZH.2.2.2.2.2.2.2.1 else decide ((Zb s 64).1<60)&&ZH.2.2.2.2.2.2.2.1,bif decide ((Zb s 64).1<30) then ZH.2.2.2.2.2.2.2.2.1 else bif decide ((Zb s 64).1<36) then ZH.2.2.2.2.2.2.2.2.1 else bif decide ((Zb s 64).1<40) then ZH.2.2.2.2.2.2.2.2.1 else bif decide ((Zb s 64).1<46) then u8.wrap (Zb (Zb s 64).2 256).1 else bif decide ((Zb s 64).1<50) then ZH.2.2.2.2.2.2.2.2.1 else bif decide ((Zb s 64).1<53) then ZH.2.2.2.2.2.2.2.2.1 else bif decide ((Zb s 64).1<55) then ZH.2.2.2.2.2.2.2.2.1 else bif (Zb s 64).1==55 then ZH.2.2.2.2.2.2.2.2.1 else bif decide ((Zb s 64).1<60) then 1 else u8.wrap x8.1,bif decide ((Zb s 64).1<30) then u8.wrap (Zb s 64).1 else bif decide ((Zb s 64).1<36) then ZH.2.2.2.2.2.2.2.2.2 else bif decide ((Zb s 64).1<40) then ZH.2.2.2.2.2.2.2.2.2 else bif decide ((Zb s 64).1<46) then ZH.2.2.2.2.2.2.2.2.2 else bif decide ((Zb s 64).1<50) then ZH.2.2.2.2.2.2.2.2.2 else bif decide ((Zb s 64).1<53) then ZH.2.2.2.2.2.2.2.2.2 else bif decide ((Zb s 64).1<55) then ZH.2.2.2.2.2.2.2.2.2 else bif (Zb s 64).1==55 then ZH.2.2.2.2.2.2.2.2.2 else bif decide ((Zb s 64).1<60) then (Zaa (Zb s 64).2).1 else u8.wrap x21.1),bif decide ((Zb s 64).1<30) then (Zb s 64).2.1 else bif decide ((Zb s 64).1<36) then (Zb s 64).2.1 else bif decide ((Zb s 64).1<40) then (Zb s 64).2.1 else bif decide ((Zb s 64).1<46) then (Zb (Zb s 64).2 256).2.1 else bif decide ((Zb s 64).1<50) then (Zb s 64).2.1 else bif decide ((Zb s 64).1<53) then (Zb s 64).2.1 else bif decide ((Zb s 64).1<55) then (Zb s 64).2.1 else bif (Zb s 64).1==55 then (Zb s 64).2.1 else bif decide ((Zb s 64).1<60) then (Zaa (Zb s 64).2).2.1 else x22.1,bif decide ((Zb s 64).1<30) then (Zb s 64).2.2 else bif decide ((Zb s 64).1<36) then (Zb s 64).2.2 else bif decide ((Zb s 64).1<40) then (Zb s 64).2.2 else bif decide ((Zb s 64).1<46) then (Zb (Zb s 64).2 256).2.2 else bif decide ((Zb s 64).1<50) then (Zb s 64).2.2 else bif decide ((Zb s 64).1<53) then (Zb s 64).2.2 else bif decide ((Zb s 64).1<55) then (Zb s 64).2.2 else bif (Zb s 64).1==55 then (Zb s 64).2.2 else bif decide ((Zb s 64).1<60) then (Zaa (Zb s 64).2).2.2 else x22.2)))) (.Lf none)) (.Lf none)) (.Lf none)) (.Lf none)) (.Lf none)) (.Lf none)) (.Lf none)) (.Lf none)) (.Lf none)) (.Lf none)
def ZcM (s:List Int×Int):INPT×List Int×Int:=getO (ZpG.Df,ZpH.Df) (Zlc s).val
def Zgg (s:List Int×Int):Bool:=okB (Zlc s).val
def Zld:En:=boxE ZpH ZyQ ZpG (λa=>some (Zgg a.1)) (λa=>ZcM a.1)
theorem Zlb:Zd prog 135 Zld:=
 ZbI (P:=prog) (n:=5036105318265824215071) (k:=8) (l:=[(46,ZbZ),(74,ZJY),(109,Zfz),(190,ZwL)]) (ol:=[]) ⟨ZaI,ZIf,Zd2,Znu,Tv⟩ Tryz.func135 rfl (by kernel_rfl) Tryz.call135 trivial (rb:=ZpH) (ts:=ZyQ) (rs:=ZpG) (t:=λa=>Zlc a.1) (λa=>by kernel_rfl)
abbrev Zla:R:=R.Pq (R.sl (R.int i64)) (R.int i64)
abbrev Zsz:List Sh:=[Sh.one (R.int i64)]
abbrev Zk9:Rs:=Rs.one (Sh.one (R.sl ZcE))
def ZBr:LS:={n:=39,Sl:=[(0,.fix (A.loc 0 0)),(5,.tip 0),(6,.code (Sh.one (R.int i64))),(7,.fix (A.loc 1 0)),(8,.code (Sh.one (R.int i64)))],Bx:=[[.many (R.Pq (R.sl (R.int i64)) (R.int i64))],[.many ZcE]],Sg:=[⟨ZcE,195,true⟩]}
def Zc2 (a:QT12):RT (Option (Go1 (QT12))):=
 let x1:List INPT:=a.2.2.2.2.1++[a.2.2.2.1]
 .br (decide (a.2.1>=0)&&decide (iN (List.length a.2.2.2.2.1)<a.1)) (.br (Nat.ble (List.length x1) most) (.Lf (some (Go1.cont (a.1,i64.wrap (a.2.1-1),a.2.2.1,a.2.2.2.1,x1,PUnit.unit)))) (.Lf none)) (.Lf (some (Go1.brk (a.1,a.2.1,a.2.2.1,a.2.2.2.1,a.2.2.2.2.1,PUnit.unit))))
def ZfA:Ora:=Zdo false ZBr Zc2 (λa=>400)
theorem Ziq:Zb9 (envX prog [(46,ZbZ),(135,Zld)] [] 511 8) (.block 2 (.loop (ZaV Tryz.f71.body 2))) ZfA:=
 loopP ⟨ZaI,Zlb,Tv⟩
def ZBq:LS:={n:=39,Sl:=[(0,.fix (A.loc 0 0)),(5,.tip 0),(6,.code (Sh.one (R.int i64)))],Bx:=[[.many (R.Pq (R.sl (R.int i64)) (R.int i64))]],Sg:=[⟨ZcE,195,true⟩]}
def Zd3 (a:QT19):RT (Option (Go1 (QT19))):=
 let x1:= !Zj (ZcM a.2.1).2 4||Zj (Zb (ZcM a.2.1).2 4).2 5
 let x2:= !x1
 let x3:QT12:=(a.1,i64.wrap ((Zb (ZcM a.2.1).2 4).1*(Zb (Zb (ZcM a.2.1).2 4).2 5).1),(Zb (Zb (ZcM a.2.1).2 4).2 5).2,(ZcM a.2.1).1,a.2.2.1,())
 let x4:=runF false Zc2 (λa_1=>400) x3
 let x5:QT12:=(getO (false,x3) x4).2
 let x6:=x5.2.2
 .br (decide (iN (List.length a.2.2.1)<a.1)) (.br (!Zgg a.2.1||(x2||(!Zj (ZcM a.2.1).2 4||okB x4))) (.br (!Zgg a.2.1||(x2||Zj (ZcM a.2.1).2 4)) (.br (!Zgg a.2.1||x1) (.br (Zgg a.2.1) (.Lf (some (Go1.cont (x5.1,x6.1,x6.2.2.1,PUnit.unit)))) (.Lf none)) (.Lf none)) (.Lf none)) (.Lf none)) (.Lf (some (Go1.brk (a.1,a.2.1,a.2.2.1,PUnit.unit))))
def Zm4:Ora:=Zdo false ZBq Zd3 (λa=>400)
theorem ZsA:Zb9 (envX prog [(46,ZbZ),(135,Zld)] [(2,ZfA)] 511 8) (.block 0 (.loop (ZaV Tryz.f71.body 0))) Zm4:=
 ZsQ (ZcH (l:=[(46,ZbZ),(135,Zld)]) ⟨ZaI,Zlb,Tv⟩ [(2,ZfA)] 511 8) (Zwe (by kernel_rfl) (by kernel_rfl) ⟨Ziq,Tv⟩) (λa=>by kernel_rfl)
def Zg4 (s:List Int×Int) (n:Int):RT (Option (List INPT×List Int×Int)):=
 let x1:QT19:=((Zb s (i64.wrap (n+1))).1,(Zb s (i64.wrap (n+1))).2,[],())
 let x2:=runF false Zd3 (λa=>400) x1
 let x3:(List Int×Int)×List INPT×PUnit:=(getO (false,x1) x2).2.2
 .br (Zj s (i64.wrap (n+1))) (.br (okB x2) (.Lf (some ((x3.2.1,x3.1)))) (.Lf none)) (.Lf none)
def Z1 (s:List Int×Int) (n:Int):List INPT×List Int×Int:=getO (Zk9.Df,Zla.Df) (Zg4 s n).val
def Zg5 (s:List Int×Int) (n:Int):Bool:=okB (Zg4 s n).val
def ZyP:En:=boxE Zla Zsz Zk9 (λa=>some (Zg5 a.1 a.2)) (λa=>Z1 a.1 a.2)
theorem ZBo:Zd prog 71 ZyP:=
 ZbI (P:=prog) (n:=511) (k:=8) (l:=[(46,ZbZ),(135,Zld)]) (ol:=[(2,ZfA),(0,Zm4)]) ⟨ZaI,Zlb,Tv⟩ Tryz.func71 rfl (by kernel_rfl) Tryz.call71 ⟨Ziq,ZsA,Tv⟩ (rb:=Zla) (ts:=Zsz) (rs:=Zk9) (t:=λa=>Zg4 a.1 a.2) (λa=>by kernel_rfl)
variable {s:List Int×Int} {k:Int}
theorem NB.up {j:Int} (h:NB s k) (hj:k<=j):NB s j:=⟨h.1,by have:=h.2;omega⟩
theorem Zg6 (h:NB s k) (hk:k<=1000000):ZaS s=true/\NB (Z6 s).2 (k+1):=by obtain⟨c1,b,_⟩:=Zv h hk 2 (by decide) (by decide);simp only[ZaS,Z6,ZyR,RT.val,c1,Ya,okB,getO];exact⟨trivial,b⟩
theorem ZaN {a b:Nat} (h:a<=b):Nat.ble a b=true:=by rw[YT];exact h
theorem ZvZ (h:NB s k) (hk:k<=500000) (n:Nat) (hn:n<=100):
  Zcz s (n:Int)=true/\NB (ZaP s (n:Int)).2 (k+1+5*n)/\(ZaP s (n:Int)).1.length<=n:=by
 have hms:=mst;have w0:IntKind.wrap .i64 ((n:Int)+1)=(n:Int)+1:=Zq _ (by omega) (by omega);obtain⟨c1,b1,d0,d1⟩:=Zv h (by omega) ((n:Int)+1) (by omega) (by omega);obtain⟨L,N,hs1⟩:∃L N,(L,N)=(Zb s ((n:Int)+1)).2:=⟨_,_,rfl⟩;obtain⟨q,hq⟩:∃q:Nat,(Zb s ((n:Int)+1)).1=(q:Int):=⟨_,(Yad d0).symm⟩;rw[<-hs1] at b1;obtain⟨r,hr,h1,L',N',o,hs',ho,hR⟩:=Zaj (fl:=false) (t:=Zdk) (fuel:=λa=>400)
  (λa=>∃(i:Nat) (L:List Int) (N:Int) (o:List Z4),i<=q/\NB (L,N) (k+1+5*((q-i:Nat):Int))/\o.length<=q-i/\a=((i:Int),(L,N),o,()))
  (λa=>Int.toNat a.1) (λr=>r.1=false/\∃(L:List Int) (N:Int) (o:List Z4),NB (L,N) (k+1+5*(q:Int))/\o.length<=q/\r.2=((0:Int),(L,N),o,()))
  (by
   rintro a ⟨i,L,N,o,hi,hs',ho,rfl⟩;cases i with
   |zero=>
    right;left;exact⟨_,by simp only[Zdk,RT.val];rfl,rfl,L,N,o,by simpa using hs',by omega,rfl⟩
   |succ i=>
    left;have d:decide (((i+1:Nat):Int)>0)=true:=Yy (by omega);obtain⟨kw,bw,_⟩:=ZIe hs' (by omega);obtain⟨k1,b1,e0,e1⟩:=Zv bw (by omega) 6 (by decide) (by decide);obtain⟨k2,b2,_⟩:=Zv b1 (by omega) 3 (by decide) (by decide);obtain⟨k3,b3,f0,f1⟩:=Zv b2 (by omega) 5 (by decide) (by decide);have r1:Ze (Zb (Zba (L,N)).2 6).1 6=true:=ZB.2 ⟨e0,e1⟩;have r2:Ze (Zb (Zb (Zb (Zba (L,N)).2 6).2 3).2 5).1 5=true:=ZB.2 ⟨f0,f1⟩;have hb:∀x:Z4,Nat.ble (o++[x]).length most=true:=λx=>ZaN (by simp;omega)
    have w:IntKind.wrap .i64 (((i+1:Nat):Int)-1)=(i:Int):=by rw[Zq _ (by omega) (by omega)];omega
    obtain⟨o',ho'⟩:∃o':List Z4,o'=o++[((Zba (L,N)).1,u16.wrap (if 65535<i64.wrap (i64.wrap (Zba (L,N)).1+R.get (R.int i64) [0,3,15,255,4095,65535] (Zb (Zba (L,N)).2 6).1) then 65535 else i64.wrap (i64.wrap (Zba (L,N)).1+R.get (R.int i64) [0,3,15,255,4095,65535] (Zb (Zba (L,N)).2 6).1)),decide ((Zb (Zb (Zba (L,N)).2 6).2 3).1>0),R.get (R.int i64) [0,0,1,2,5] (Zb (Zb (Zb (Zba (L,N)).2 6).2 3).2 5).1)]:=⟨_,rfl⟩;refine⟨((i:Int),((Zb (Zb (Zb (Zba (L,N)).2 6).2 3).2 5).2.1,(Zb (Zb (Zb (Zba (L,N)).2 6).2 3).2 5).2.2),o',()),?_,⟨i,_,_,o',by omega,b3.up (by omega),by rw[ho'];simp;omega,rfl⟩,by simp only;omega⟩
    simp only[Zdk,RT.val,List.length_cons,List.length_nil,Nat.reduceAdd,d,kw,k1,k2,k3,r1,r2,hb,w,ho',Ya,Yg,Yn,Ye,Yz])
  ((q:Int),(L,N),[],()) ⟨q,L,N,[],Yd _,by simpa using b1,by simp,rfl⟩ (by simp only;omega)
 obtain⟨r1,r2⟩:=r;simp only at h1 hR;subst h1 hR;have hv:(ZeY s (n:Int)).val=some (o,L',N'):=by simp only[ZeY,RT.val,w0,c1,hq,<-hs1,hr,okB,getO,Ya]
 simp only[Zcz,ZaP,hv,okB,getO];exact⟨trivial,hs'.up (by omega),by omega⟩
theorem ZMh {l:List Cell} (h:l.length<=1000):smC l=true:=ZaN (by have:=mst;omega)
theorem ZI8 {l:List Int} (h:l.length<=1000):smB l=true:=ZaN (by have:=mst;omega)
theorem ZFg (h:NB s k) (hk:k<=400000):ZBn s=true/\NB (nMap s).2 (k+20)/\(nMap s).1.length<=3:=by
 obtain⟨c1,b1,l1⟩:=ZvZ h (by omega) 2 (by omega);have c1:Zcz s 2=true:=c1;have b1:NB (ZaP s 2).2 (k+1+5*((2:Nat):Int)):=b1;have l1:(ZaP s 2).1.length<=2:=l1;obtain⟨c2,b2,_⟩:=Zv b1 (by omega) 3 (by decide) (by decide);have hs:∀x:Z4,Nat.ble ((ZaP s 2).1++[x]).length most=true:=λx=>ZaN (by have:=mst;simp;omega)
 have hg:∀l:List Z4,Stg.l (newG Zd0 Zd1 l)=l:=λ_=>rfl
 have hv:(ZFh s).val=some ((ZaP s 2).1++[(0,65535,true,IntKind.wrap .i64 (Int.tdiv (Zb (ZaP s 2).2 3).1 2))],(Zb (ZaP s 2).2 3).2):=by simp only[ZFh,RT.val,hg,c1,c2,hs,Yg,Yn,Ye,Ya]
 refine⟨by simp only[ZBn,hv];rfl,?_,?_⟩
 ·simp only[nMap,hv,getO];exact b2.up (by omega)
 ·simp only[nMap,hv,getO];simp;omega
theorem Zv1 (h:NB s k) (hk:k<=300000) (n:Nat) (hn:n<=20):
  Ze0 s (n:Int)=true/\NB (Zbp s (n:Int)).2 (k+1+10*n)/\(Zbp s (n:Int)).1.length<=12*n:=by
 have hms:=mst;have w0:IntKind.wrap .i64 ((n:Int)+1)=(n:Int)+1:=Zq _ (by omega) (by omega);obtain⟨c1,b1,d0,d1⟩:=Zv h (by omega) ((n:Int)+1) (by omega) (by omega);obtain⟨s1,hs1⟩:∃s1,s1=(Zb s ((n:Int)+1)).2:=⟨_,rfl⟩;obtain⟨q,hq⟩:∃q:Nat,(Zb s ((n:Int)+1)).1=(q:Int):=⟨_,(Yad d0).symm⟩;rw[<-hs1] at b1;obtain⟨r,hr,h1,s',o,hs',ho,hR⟩:=Zaj (fl:=false) (t:=Zce) (fuel:=λa=>400)
  (λa=>∃(i:Nat) (s':List Int×Int) (o:List Int),i<=q/\NB s' (k+1+10*((q-i:Nat):Int))/\o.length<=12*(q-i)/\a=((i:Int),s',o,()))
  (λa=>Int.toNat a.1) (λr=>r.1=false/\∃(s':List Int×Int) (o:List Int),NB s' (k+1+10*(q:Int))/\o.length<=12*q/\r.2=((0:Int),s',o,()))
  (by
   rintro a ⟨i,s',o,hi,hs',ho,rfl⟩;cases i with
   |zero=>
    right;left;exact⟨_,by simp only[Zce,RT.val];rfl,rfl,s',o,by simpa using hs',by omega,rfl⟩
   |succ i=>
    left;have d:decide (((i+1:Nat):Int)>0)=true:=Yy (by omega);have w:IntKind.wrap .i64 (((i+1:Nat):Int)-1)=(i:Int):=by rw[Zq _ (by omega) (by omega)];omega
    obtain⟨k0,b0,_⟩:=Zv hs' (by omega) 8 (by decide) (by decide);obtain⟨k1,b1,e0,e1⟩:=Zv b0 (by omega) 4 (by decide) (by decide);obtain⟨k2,b2,_⟩:=Zv b1 (by omega) 256 (by decide) (by decide);obtain⟨k3,b3,f0,f1⟩:=Zv b2 (by omega) 4 (by decide) (by decide);obtain⟨k4,b4,_⟩:=Zi6 b0 (by omega);obtain⟨k5,b5,_⟩:=Zv b4 (by omega) 8 (by decide) (by decide);obtain⟨k6,b6,_⟩:=Zv b0 (by omega) 16 (by decide) (by decide);obtain⟨k7,b7,_⟩:=Zi6 b6 (by omega);obtain⟨k8,b8,_⟩:=ZhT b0 (by omega);obtain⟨k9,b9,_⟩:=Zv b8 (by omega) 64 (by decide) (by decide);obtain⟨ka,ba,g0,g1⟩:=Zv b9 (by omega) 4 (by decide) (by decide);have r1:Ze (Zb (Zb s' 8).2 4).1 4=true:=ZB.2 ⟨e0,e1⟩;have r2:Ze (Zb (Zb (Zb (Zb s' 8).2 4).2 256).2 4).1 4=true:=ZB.2 ⟨f0,f1⟩;have r3:Ze (Zb (Zb (Zaa (Zb s' 8).2).2 64).2 4).1 4=true:=ZB.2 ⟨g0,g1⟩;have hb:∀x:List Int,x.length<=12->Nat.ble (o++x).length most=true:=λx hx=>ZaN (by rw[Yf];omega)
    have q1:∀a b c:Int,Nat.ble (o++[a,b,c]).length most=true:=λa b c=>hb _ (by simp)
    have q2:∀a b c d:Int,Nat.ble (o++[a,b,c,d]).length most=true:=λa b c d=>hb _ (by simp)
    have q3:∀a:Int,Nat.ble (o++[a]).length most=true:=λa=>hb _ (by simp)
    have q4:∀a b c d e f g h i j k l:Int,Nat.ble (o++[a,b,c,d,e,f,g,h,i,j,k,l]).length most=true:=λa b c d e f g h i j k l=>hb _ (by simp)
    have hv:∃s2 x,x.length<=12/\NB s2 (k+1+10*((q-i:Nat):Int))/\(Zce (((i+1:Nat):Int),s',o,())).val=some (Go1.cont ((i:Int),s2,o++x,())):=by
     simp only[Zce,RT.val,List.length_cons,List.length_nil,Nat.reduceAdd,d,w,k0,k1,k2,k3,k4,k5,k6,k7,k8,k9,ka,r1,r2,r3,q1,q2,q3,q4,Ya,Yg,Yn,Ye,Yz];cases (Zb s' 8).1==0
     ·cases (Zb s' 8).1==1
      ·cases (Zb s' 8).1==2
       ·cases (Zb s' 8).1==3
        ·exact⟨_,[(Zaa (Zb s' 8).2).1,IntKind.wrap .u8 (Zb (Zaa (Zb s' 8).2).2 64).1,R.get (R.int .u8) [0,0,1,255] (Zb (Zb (Zaa (Zb s' 8).2).2 64).2 4).1],by simp,ba.up (by omega),rfl⟩
        ·exact⟨_,[62,IntKind.wrap .u8 (IntKind.wrap .i64 (16+(Zb (Zb s' 8).2 16).1)),211,0,62,(Zb8 (Zb (Zb s' 8).2 16).2).1,211,1,62,0,211,1],by simp,b7.up (by omega),rfl⟩
       ·exact⟨_,[251],by simp,b0.up (by omega),rfl⟩
      ·exact⟨_,[62,(Zb8 (Zb s' 8).2).1,211,IntKind.wrap .u8 (Zb (Zb8 (Zb s' 8).2).2 8).1],by simp,b5.up (by omega),rfl⟩
     ·exact⟨_,[R.get (R.int .u8) [33,49,1,17] (Zb (Zb s' 8).2 4).1,IntKind.wrap .u8 (Zb (Zb (Zb s' 8).2 4).2 256).1,R.get (R.int .u8) [0,0,1,255] (Zb (Zb (Zb (Zb s' 8).2 4).2 256).2 4).1],by simp,b3.up (by omega),rfl⟩
    obtain⟨s2,x,hx,hs2,hv⟩:=hv
    exact⟨_,hv,⟨i,s2,o++x,by omega,hs2,by rw[Yf];omega,rfl⟩,by simp only;omega⟩)
  ((q:Int),s1,[],()) ⟨q,s1,[],Yd _,by simpa using b1,by simp,rfl⟩ (by simp only;omega)
 obtain⟨r1,r2⟩:=r;simp only at h1 hR;subst h1 hR;have hv:(ZeZ s (n:Int)).val=some (o,s'):=by simp only[ZeZ,RT.val,w0,c1,hq,<-hs1,hr,okB,getO,Ya]
 simp only[Ze0,Zbp,hv,okB,getO];exact⟨trivial,hs'.up (by omega),by omega⟩
theorem ZsR (t:Int) (b:List Int):(Zl6 t b).length<=b.length:=by have:=Zdj (Zls t b b.length);rw[Zlr] at this;exact this
theorem ZFk (h:NB s k) (hk:k<=300000):Zgg s=true/\NB (ZcM s).2 (k+20):=by
 obtain⟨c1,b1,_⟩:=Zv h (by omega) 64 (by decide) (by decide);obtain⟨c2,b2,_⟩:=Zv b1 (by omega) 256 (by decide) (by decide);obtain⟨c3,b3,_⟩:=ZhT b1 (by omega);obtain⟨f1,g1⟩:=Zg6 b1 (by omega);obtain⟨f2,g2⟩:=Zg6 g1 (by omega);obtain⟨f3,g3⟩:=Zg6 g2 (by omega);obtain⟨f4,g4⟩:=Zg6 g3 (by omega);obtain⟨f5,g5⟩:=Zg6 g4 (by omega);obtain⟨c4,b4,_⟩:=Zv g5 (by omega) 256 (by decide) (by decide);obtain⟨c5,b5,_⟩:=Zv b4 (by omega) 256 (by decide) (by decide);have hv:∃c s',(Zlc s).val=some (c,s')/\NB s' (k+20):=by
  simp only[Zlc,RT.val,c1,c2,c3,c4,c5,f1,f2,f3,f4,f5,Ya,Yg,Yn,Ye,Yz];cases decide ((Zb s 64).1<30) with
  |true=>exact⟨_,_,rfl,b1.up (by omega)⟩
  |false=>
  cases decide ((Zb s 64).1<36) with
  |true=>exact⟨_,_,rfl,b1.up (by omega)⟩
  |false=>
  cases decide ((Zb s 64).1<40) with
  |true=>exact⟨_,_,rfl,b1.up (by omega)⟩
  |false=>
  cases decide ((Zb s 64).1<46) with
  |true=>exact⟨_,_,rfl,b2.up (by omega)⟩
  |false=>
  cases decide ((Zb s 64).1<50) with
  |true=>exact⟨_,_,rfl,b1.up (by omega)⟩
  |false=>
  cases decide ((Zb s 64).1<53) with
  |true=>exact⟨_,_,rfl,b1.up (by omega)⟩
  |false=>
  cases decide ((Zb s 64).1<55) with
  |true=>exact⟨_,_,rfl,b1.up (by omega)⟩
  |false=>
  cases ((Zb s 64).1==55) with
  |true=>exact⟨_,_,rfl,b1.up (by omega)⟩
  |false=>
  cases decide ((Zb s 64).1<60) with
  |true=>exact⟨_,_,rfl,b3.up (by omega)⟩
  |false=>exact⟨_,_,rfl,b5.up (by omega)⟩
 obtain⟨c,s',hv,h1⟩:=hv;simp only[Zgg,ZcM,hv,okB,getO];exact⟨trivial,h1⟩
theorem ZLL (s:List Int×Int) (z:Int) (c:INPT) (kk:Nat) (hk:kk<300) (o:List INPT) (size:Nat) (ho:o.length<=size) (hz:size<=300):
  ∃k2 o2,runF false Zc2 (λ_=>400) ((size:Int),(kk:Int),s,c,o,())=some (false,(size:Int),k2,s,c,o2,())/\o2.length<=size/\o.length<=o2.length/\(o.length<size->o.length<o2.length):=by
 have hms:=mst;obtain⟨r,hr,h1,k2,o2,e1,e2,e3,e4⟩:=Zaj (fl:=false) (t:=Zc2) (fuel:=λ_=>400)
  (λa=>∃(j:Nat) (o2:List INPT),j<=kk+1/\o2.length<=size/\o.length<=o2.length/\(j=kk+1\/o.length<o2.length)/\a=((size:Int),(j:Int)-1,s,c,o2,()))
  (λa=>Int.toNat (a.2.1+1)) (λr=>r.1=false/\∃k2 o2,r.2=((size:Int),k2,s,c,o2,())/\o2.length<=size/\o.length<=o2.length/\(o.length<size->o.length<o2.length))
  (by
   rintro a ⟨j,o2,hj,h2,h3,h4,rfl⟩;have w:∀j:Nat,j<=1000->IntKind.wrap .i64 (((j:Nat):Int)-1-1)=(j:Int)-1-1:=λj hj=>Zq _ (by omega) (by omega)
   by_cases hc:1<=j/\o2.length<size
   ·left;have d1:decide (((j:Nat):Int)-1>=0)=true:=Yy (by omega);have d2:decide (iN o2.length<(size:Int))=true:=Yy (by simp only[iN];omega);have hb:Nat.ble (o2++[c]).length most=true:=ZaN (by simp;omega);refine⟨((size:Int),(j:Int)-1-1,s,c,o2++[c],()),?_,⟨j-1,o2++[c],by omega,by simp;omega,by simp;omega,by right;simp;omega,?_⟩,by simp only;omega⟩
    ·simp only[Zc2,RT.val,d1,d2,hb,Yaf,Ya,w j (by omega)]
    ·have:((j:Nat):Int)-1=((j-1:Nat):Int):=by omega
     rw[this]
   ·right;left;have d:(decide (((j:Nat):Int)-1>=0)&&decide (iN o2.length<(size:Int)))=false:=by simp only[iN,Y8,Yam];omega
    exact⟨((size:Int),(j:Int)-1,s,c,o2,()),by simp only[Zc2,RT.val,d,Yb],rfl,_,o2,rfl,h2,h3,λh=>by
     rcases h4 with h4|h4
     ·omega
     ·exact h4⟩)
  ((size:Int),(kk:Int),s,c,o,()) ⟨kk+1,o,Yd _,ho,Yd _,.inl rfl,by
   have:(kk:Int)=((kk+1:Nat):Int)-1:=by omega
   rw[<-this]⟩ (by simp only;omega)
 obtain⟨r1,r2⟩:=r;simp only at h1 e1;subst h1 e1;exact⟨k2,o2,hr,e2,e3,e4⟩
theorem ZBp (h:NB s k) (hk:k<=100000) (n:Nat) (hn:n<=250):
  Zg5 s (n:Int)=true/\NB (Z1 s (n:Int)).2 (k+1+30*n)/\(Z1 s (n:Int)).1.length<=n:=by
 have hms:=mst;have w0:IntKind.wrap .i64 ((n:Int)+1)=(n:Int)+1:=Zq _ (by omega) (by omega);obtain⟨c1,b1,d0,d1⟩:=Zv h (by omega) ((n:Int)+1) (by omega) (by omega);obtain⟨s1,hs1⟩:∃s1,s1=(Zb s ((n:Int)+1)).2:=⟨_,rfl⟩;obtain⟨q,hq⟩:∃q:Nat,(Zb s ((n:Int)+1)).1=(q:Int):=⟨_,(Yad d0).symm⟩;rw[<-hs1] at b1;obtain⟨r,hr,h1,s',o,hs',ho,hR⟩:=Zaj (fl:=false) (t:=Zd3) (fuel:=λa=>400)
  (λa=>∃(s':List Int×Int) (o:List INPT),NB s' (k+1+30*(o.length:Int))/\o.length<=q/\a=((q:Int),s',o,()))
  (λa=>Int.toNat a.1-a.2.2.1.length) (λr=>r.1=false/\∃(s':List Int×Int) (o:List INPT),NB s' (k+1+30*(q:Int))/\o.length<=q/\r.2=((q:Int),s',o,()))
  (by
   rintro a ⟨s',o,hs',ho,rfl⟩;by_cases hc:o.length<q
   ·left;have d:decide (iN o.length<(q:Int))=true:=Yy (by simp only[iN];omega);obtain⟨i1,g1⟩:=ZFk hs' (by omega);obtain⟨i2,g2,m0,m1⟩:=Zv g1 (by omega) 4 (by decide) (by decide);obtain⟨i3,g3,m2,m3⟩:=Zv g2 (by omega) 5 (by decide) (by decide);obtain⟨x,hx⟩:∃x:Nat,(Zb (ZcM s').2 4).1=(x:Int):=⟨_,(Yad m0).symm⟩;obtain⟨y,hy⟩:∃y:Nat,(Zb (Zb (ZcM s').2 4).2 5).1=(y:Int):=⟨_,(Yad m2).symm⟩;have hxy:x*y<=3*4:=Nat.mul_le_mul (by omega) (by omega);have w:IntKind.wrap .i64 ((x:Int)*(y:Int))=((x*y:Nat):Int):=by rw[show (x:Int)*(y:Int)=((x*y:Nat):Int) by simp,Zq _ (by omega) (by omega)]
    obtain⟨k2,o2,hr,e2,e3,e4⟩:=ZLL (Zb (Zb (ZcM s').2 4).2 5).2 0 (ZcM s').1 (x*y) (by omega) o q ho (by omega);have e5:=e4 hc;refine⟨((q:Int),(Zb (Zb (ZcM s').2 4).2 5).2,o2,()),?_,⟨_,o2,g3.up (by omega),e2,rfl⟩,by simp only;omega⟩;simp only[Zd3,RT.val,d,i1,i2,i3,hx,hy,w,hr,okB,getO,Ya,Yg,Yn,Ye,Yz]
   ·right;left;have d:decide (iN o.length<(q:Int))=false:=Y0 (by simp only[iN];omega)
    exact⟨_,by simp only[Zd3,RT.val,d,Yb],rfl,s',o,hs'.up (by omega),ho,rfl⟩)
  ((q:Int),s1,[],()) ⟨s1,[],by simpa using b1,by simp,rfl⟩ (by simp only[List.length_nil];omega)
 obtain⟨r1,r2⟩:=r;simp only at h1 hR;subst h1 hR;have hv:(Zg4 s (n:Int)).val=some (o,s'):=by simp only[Zg4,RT.val,w0,c1,hq,<-hs1,hr,okB,getO,Ya]
 simp only[Zg5,Z1,hv,okB,getO];exact⟨trivial,hs'.up (by omega),by omega⟩
theorem ZsD (h:NB s k) (hk:k<=10000):
  ZhU s=true/\NB (ZF s).2 (k+300)/\(∃s1,NB s1 (k+1)/\(ZF s).1.2.1=(nMap s1).1)/\((ZF s).1.1=1\/(ZF s).1.1=2)/\
   (0<=(ZF s).1.2.2.1/\(ZF s).1.2.2.1<=2)/\∃l:List Cell,l.length<=200/\(ZF s).1.2.2.2.2.2.2=normX l:=by
 have hms:=mst;obtain⟨c0,b0,hch⟩:=ZIg h (by omega);obtain⟨c1,b1,l1⟩:=ZFg b0 (by omega);obtain⟨c2,b2,w0,w1⟩:=Zv b1 (by omega) 3 (by decide) (by decide);obtain⟨c3,b3,_⟩:=Zv b2 (by omega) 4 (by decide) (by decide);obtain⟨c4,b4,_⟩:=Zv b3 (by omega) 6 (by decide) (by decide);obtain⟨c5,b5,_⟩:=Zi6 b4 (by omega);obtain⟨c6,b6,_⟩:=Zi6 b5 (by omega)
 obtain⟨s2,hs2,b7⟩:∃s2,s2=((bif (Zb (Zb (Zb (nMap (ZaA s).2).2 3).2 4).2 6).1==0 then (Zb8 (Zb8 (Zb (Zb (Zb (nMap (ZaA s).2).2 3).2 4).2 6).2).2).2.1 else (Zb (Zb (Zb (nMap (ZaA s).2).2 3).2 4).2 6).2.1,
   bif (Zb (Zb (Zb (nMap (ZaA s).2).2 3).2 4).2 6).1==0 then (Zb8 (Zb8 (Zb (Zb (Zb (nMap (ZaA s).2).2 3).2 4).2 6).2).2).2.2 else (Zb (Zb (Zb (nMap (ZaA s).2).2 3).2 4).2 6).2.2):List Int×Int)/\NB s2 (k+30):=by
  refine⟨_,rfl,?_⟩;cases (Zb (Zb (Zb (nMap (ZaA s).2).2 3).2 4).2 6).1==0
  ·exact b4.up (by omega)
  ·exact b6.up (by omega)
 obtain⟨c8,b8,l8⟩:=Zv1 b7 (by omega) 12 (by omega);have c8:Ze0 s2 12=true:=c8;have b8:NB (Zbp s2 12).2 (k+30+1+10*((12:Nat):Int)):=b8;have l8:(Zbp s2 12).1.length<=12*12:=l8;obtain⟨c9,b9,d0,d1⟩:=Zv b8 (by omega) 4 (by decide) (by decide);have hl:=ZsR 0 (Zbp s2 12).1;obtain⟨q,hq⟩:∃q:Nat,(Zb (Zbp s2 12).2 4).1=(q:Int):=⟨_,(Yad d0).symm⟩;have hg:∀l:List Cell,Stg.l (newG Zfp Zfq l)=l:=λ_=>rfl
 have key:∀x y z:BRDT,∀o:List Cell,o.length<=144->∃s' o',NB s' (k+200)/\o'.length<=200/\
   runF false Zd4 (λ_=>400) ((q:Int),(Zb (Zbp s2 12).2 4).2,x,y,o,())=some (false,0,s',x,y,o',()):=by
  intro x y z o ho;obtain⟨r,hr,h1,s',o',g1,g2,g3⟩:=Zaj (fl:=false) (t:=Zd4) (fuel:=λ_=>400)
   (λa=>∃(i:Nat) (s':List Int×Int) (o:List Cell),i<=q/\NB s' (k+30+1+10*((12:Nat):Int)+1+4*((q-i:Nat):Int))/\o.length<=144+3*(q-i)/\a=((i:Int),s',x,y,o,()))
   (λa=>Int.toNat a.1) (λr=>r.1=false/\∃s' o',NB s' (k+200)/\o'.length<=200/\r.2=(0,s',x,y,o',()))
   (by
    rintro a ⟨i,s',o,hi,hs',ho,rfl⟩;cases i with
    |zero=>
     right;left;exact⟨_,by simp only[Zd4,RT.val];rfl,rfl,s',o,hs'.up (by omega),by omega,rfl⟩
    |succ i=>
     left;have d:decide (((i+1:Nat):Int)>0)=true:=Yy (by omega);have w:IntKind.wrap .i64 (((i+1:Nat):Int)-1)=(i:Int):=by rw[Zq _ (by omega) (by omega)];omega
     obtain⟨k0,b0,e0,e1⟩:=Zv hs' (by omega) 6 (by decide) (by decide);obtain⟨k1,b1,_⟩:=ZhT b0 (by omega);have r1:Ze (Zb s' 6).1 6=true:=ZB.2 ⟨e0,e1⟩;have hsb:∀a b c:Int,smB [a,b,c]=true:=λa b c=>ZI8 (by simp)
     have hll:=ZsR (IntKind.wrap .u16 (R.get (R.int .i64) [36,60,52,44,56,32] (Zb s' 6).1)) [(Zaa (Zb s' 6).2).1,251,201];simp only[List.length_cons,List.length_nil] at hll;have hb:Nat.ble (o++Zl6 (IntKind.wrap .u16 (R.get (R.int .i64) [36,60,52,44,56,32] (Zb s' 6).1)) [(Zaa (Zb s' 6).2).1,251,201]).length most=true:=ZaN (by rw[Yf];omega);refine⟨((i:Int),(Zaa (Zb s' 6).2).2,x,y,o++Zl6 (IntKind.wrap .u16 (R.get (R.int .i64) [36,60,52,44,56,32] (Zb s' 6).1)) [(Zaa (Zb s' 6).2).1,251,201],()),?_,⟨i,_,_,by omega,b1.up (by omega),by rw[Yf];omega,rfl⟩,by simp only;omega⟩
     simp only[Zd4,RT.val,hg,List.length_cons,List.length_nil,Nat.reduceAdd,d,w,k0,k1,r1,hsb,hb,Ya,Yg,Yn,Ye,Yz])
   ((q:Int),(Zb (Zbp s2 12).2 4).2,x,y,o,()) ⟨q,_,o,Yd _,b9.up (by omega),by omega,rfl⟩ (by simp only;omega)
  obtain⟨r1,r2⟩:=r;simp only at h1 g3;subst h1 g3;exact⟨s',o',g1,g2,hr⟩
 obtain⟨s',o',g1,g2,hr⟩:=key (0,[],0,0,0,false,[]) ((ZaA s).1,(nMap (ZaA s).2).1,(Zb (nMap (ZaA s).2).2 3).1,bif (Zb (Zb (Zb (nMap (ZaA s).2).2 3).2 4).2 6).1==0 then (Zb8 (Zb (Zb (Zb (nMap (ZaA s).2).2 3).2 4).2 6).2).1 else 0,
  bif (Zb (Zb (Zb (nMap (ZaA s).2).2 3).2 4).2 6).1==0 then (Zb8 (Zb8 (Zb (Zb (Zb (nMap (ZaA s).2).2 3).2 4).2 6).2).2).1 else 4,(Zb (Zb (nMap (ZaA s).2).2 3).2 4).1==0,[]) (0,[],0,0,0,false,[]) (Zl6 0 (Zbp s2 12).1) (by omega)
 have hsc:smC o'=true:=ZMh (by omega);have hsb:smB (Zbp s2 12).1=true:=ZI8 (by omega);have hv:∃p d,(Zlg s).val=some (((ZaA s).1,(nMap (ZaA s).2).1,(Zb (nMap (ZaA s).2).2 3).1,p,d,(Zb (Zb (nMap (ZaA s).2).2 3).2 4).1==0,normX o'),s'):=by
  refine⟨bif (Zb (Zb (Zb (nMap (ZaA s).2).2 3).2 4).2 6).1==0 then (Zb8 (Zb (Zb (Zb (nMap (ZaA s).2).2 3).2 4).2 6).2).1 else 0,
   bif (Zb (Zb (Zb (nMap (ZaA s).2).2 3).2 4).2 6).1==0 then (Zb8 (Zb8 (Zb (Zb (Zb (nMap (ZaA s).2).2 3).2 4).2 6).2).2).1 else 4,?_⟩
  simp only[Zlg,RT.val,hg,<-hs2,c0,c1,c2,c3,c4,c5,c6,c8,c9,hsb,hq,hr,hsc,okB,getO,Ya,Yg,Yn,Ye,Yz]
 obtain⟨p,d,hv⟩:=hv;have e1:ZhU s=true:=by simp only[ZhU,hv];rfl
 have e2:ZF s=(((ZaA s).1,(nMap (ZaA s).2).1,(Zb (nMap (ZaA s).2).2 3).1,p,d,(Zb (Zb (nMap (ZaA s).2).2 3).2 4).1==0,normX o'),s'):=by simp only[ZF,hv,getO]
 rw[e2];exact⟨e1,g1.up (by omega),⟨_,b0,rfl⟩,hch,⟨w0,by show (Zb (nMap (ZaA s).2).2 3).1<=2;omega⟩,o',g2,rfl⟩
theorem ZKr (s:Int) {l:Int} (h:0<=l):vOnC s l=true:=by simp only[vOnC,vOnT,RT.val,Yy h,Ya,okB]
theorem ZnJ (s k:Int):Zmi s k=true/\ -1<=Zf3 s k/\Zf3 s k<=7:=by
 obtain⟨r,hr,h0,h1,h2⟩:=Zaj (fl:=false) (t:=Zgv) (fuel:=λ_=>9)
  (λa=>∃(i:Nat) (m:Int),i<=8/\ -1<=m/\m<=7/\a=(s,k,m,(i:Int),()))
  (λa=>Int.toNat (8-a.2.2.2.1)) (λr=>r.1=false/\ -1<=r.2.2.2.1/\r.2.2.2.1<=7)
  (by
   rintro a ⟨i,m,hi,h1,h2,rfl⟩;by_cases hlt:i<8
   ·left;have d:decide ((i:Int)<8)=true:=Yy (by omega);have w:IntKind.wrap .i64 ((i:Int)+1)=((i+1:Nat):Int):=by rw[Zq _ (by omega) (by omega)];omega
    have c:vOnC s (i:Int)=true:=ZKr s (by omega);refine⟨(s,k,bif vOn s (i:Int)&&(decide (m<0)||decide (Zhx (i:Int) k<Zhx m k)) then (i:Int) else m,((i+1:Nat):Int),()),by simp only[Zgv,RT.val,d,c,w,Ya],⟨i+1,_,by omega,?_,?_,rfl⟩,by simp only;omega⟩
    ·cases vOn s (i:Int)&&(decide (m<0)||decide (Zhx (i:Int) k<Zhx m k))<;>simp only[Ya,Yb]<;>omega
    ·cases vOn s (i:Int)&&(decide (m<0)||decide (Zhx (i:Int) k<Zhx m k))<;>simp only[Ya,Yb]<;>omega
   ·right;left;have d:decide ((i:Int)<8)=false:=Y0 (by omega)
    exact⟨(s,k,m,(i:Int),()),by simp only[Zgv,RT.val,d,Yb],rfl,h1,h2⟩)
  (s,k,-1,0,()) ⟨0,-1,by omega,by omega,by omega,rfl⟩ (by simp only;omega)
 obtain⟨r1,r2⟩:=r;simp only at h0 h1 h2;subst h0;have hv:(ZqG s k).val=some r2.2.2.1:=by simp only[ZqG,RT.val,hr,okB,getO,Ya]
 exact⟨by simp only[Zmi,hv];rfl,by simp only[Zf3,hv,getO];exact h1,by simp only[Zf3,hv,getO];exact h2⟩
theorem ZtR (p:PICT):ZzF p=true/\ -1<=vPck p/\vPck p<=7:=by
 have key:∀r m s k q,∃v:Int,(ZqF r m s k q).val=some v/\ -1<=v/\v<=7:=by
  intro r m s k q;have h1:=ZnJ (ZbP .u8 r m) k;have h2:=ZnJ (Zih m s q) k;simp only[ZqF,RT.val,h1.1,h2.1,Ya];cases decide (Zf3 (ZbP .u8 r m) k>=0)&&(decide (Zf3 (Zih m s q) k<0)||decide (Zhx (Zf3 (ZbP .u8 r m) k) k<Zhx (Zf3 (Zih m s q) k) k))
  ·exact⟨-1,rfl,by omega,by omega⟩
  ·exact⟨_,rfl,h1.2.1,h1.2.2⟩
 obtain⟨v,hv,h1,h2⟩:=key (vReq p) p.2.2.2.2.2.2.2.2.2.2.2.2.2.2.2.1 p.2.2.2.2.2.2.2.2.2.2.2.2.2.2.1 p.2.2.2.2.2.2.2.2.2.2.2.2.2.2.2.2.1 p.2.2.2.2.2.2.2.2.2.1;have e:(ZCF p).val=some v:=by simp only[ZCF,RT.val,ZCE,ZKp,hv,okB,getO,Ya]
 exact⟨by simp only[ZzF,e];rfl,by simp only[vPck,e,getO];exact h1,by simp only[vPck,e,getO];exact h2⟩
theorem ZKu (p:PICT):ZG6 p=true:=by simp only[ZG6,ZG5,RT.val,(ZtR p).1,Ya,okB]
variable {x:Int}
theorem ZwY (p:PICT) (h:0<=x):Zjq p x=true:=by simp only[Zjq,ZwZ,RT.val,Yy h,Ya,okB]
theorem Zxf (p:PICT) (h:0<=x):Zju p x=true:=by simp only[Zju,Zxg,RT.val,Yy h,Ya,okB]
theorem ZKx (p:PICT):ZG9 p=true:=by
 have h1:=(ZtR p).1;have h3:∀q:PICT,Zju q (andI .i64 p.2.2.2.2.2.2.2.2.2.2.2.2.2.2.2.2.2.2.1 7)=true:=λq=>Zxf q (and7 _).1
 have h2:∀q:PICT,(!decide (vPck p>=0)||Zjq q (vPck p))=true:=λq=>by
  by_cases h:vPck p>=0
  ·rw[ZwY q h,Ye]
  ·rw[Y0 h];rfl
 unfold ZG9 ZG8;simp only[RT.val,h1,h2,h3,Ye,Ya];cases p.2.2.2.2.2.2.2.2.2.2.2.2.2.2.2.2.2.1==0
 ·cases p.2.2.2.2.2.2.2.2.2.2.2.2.2.2.2.2.2.1==1
  ·rfl
  ·cases p.2.2.1<;>rfl
 ·rfl
theorem ZGZ (p:PICT) (h:Bool):Zw2 p h=true:=by
 have h1:=(ZtR p).1;unfold Zw2 Zw0;by_cases hx:0<=vPck p
 ·have h2:∀q:PICT,Zjq q (vPck p)=true:=λq=>ZwY q hx
  have h3:∀q:PICT,Zju q (vPck p)=true:=λq=>Zxf q hx
  simp only[RT.val,h1,h2,h3,Zdg,ZbW,Ye,Yg,Ya];cases h
  ·cases p.2.2.2.2.2.2.2.2.2.2.2.1
   ·cases p.2.2.2.2.2.2.2.2.2.2.1<;>rfl
   ·cases decide (vPck p<0)<;>rfl
  ·rfl
 ·have h2:decide (vPck p<0)=true:=Yy (by omega);simp only[RT.val,h1,h2,Zdg,ZbW,Ye,YC,Yg,Ya];cases h
  ·cases p.2.2.2.2.2.2.2.2.2.2.2.1
   ·cases p.2.2.2.2.2.2.2.2.2.2.1<;>rfl
   ·rfl
  ·rfl
theorem ZG4 (p:PICT) (v:Int):Zw8 p v=true:=by
 have h1:=λs k=>(ZnJ s k).1
 have h2:∀x:Int,(!decide (x>=0)||decide (0<=x))=true:=λx=>by by_cases h:0<=x<;>simp[h]
 have h3:decide (0<=IntKind.wrap .i64 (andI .u8 v 7))=true:=by have:=and7b v;rw[Zq _ (by omega) (by omega)];exact Yy this.1
 unfold Zw8 Zw7;simp only[RT.val,h1,h2,h3,Zdg,ZbW,Ye,Yg,Ya];rfl
theorem ZCn (p:PICT) (h:Bool) (v:Int):ZnE p h v=true:=by
 unfold ZnE ZnC;simp only[RT.val,ZG4,Ye,Ya];cases h
 ·cases andI .u8 v 16 !=0
  ·cases andI .u8 v 8==0<;>rfl
  ·rfl
 ·rfl
theorem ZCv (d:QT6) (r:Int):ZnH d r=true:=by have h:=and3 r;have h1:decide (0<=andI .i64 r 3/\andI .i64 r 3<4)=true:=Yy ⟨h.1,by omega⟩;simp only[ZnH,ZnF,RT.val,h1,Ya,okB]
theorem Zdv (o:Bool) {n:Int} (h:0<=n):Zee o n=true:=by simp only[Zee,ZGW,RT.val,Yy h,Ye,Ya];cases o<;>rfl
theorem ZzA (l:List INPT) (hl:l.length<=1000):ZwM l=true/\(Zjj l).length=4*l.length:=by
 have hms:=mst;obtain⟨r,hr,h0,h1⟩:=Zaj (fl:=false) (t:=Zc0) (fuel:=λ_=>1000000000000)
  (λa=>∃(i:Nat) (o:List Int),i<=l.length/\o.length=4*i/\a=(l,(l.length:Int),(i:Int),o,()))
  (λa=>Int.toNat (a.2.1-a.2.2.1)) (λr=>r.1=false/\r.2.2.2.2.1.length=4*l.length)
  (by
   rintro a ⟨i,o,hi,ho,rfl⟩;by_cases hlt:i<l.length
   ·left;have d:decide ((i:Int)<(l.length:Int))=true:=Yy (by omega);have d2:decide ((i:Int)>=65536)=false:=Y0 (by omega);have hin:Ze (i:Int) l.length=true:=ZB.2 ⟨by omega,by omega⟩;have w:IntKind.wrap .i64 ((i:Int)+1)=((i+1:Nat):Int):=by rw[Zq _ (by omega) (by omega)];omega
    have hb:∀a b c d:Int,Nat.ble (o++[a,b,c,d]).length most=true:=λa b c d=>ZaN (by simp;omega)
    have b0:=λx=>Zdv x (n:=0) (by decide)
    have b1:=λx=>Zdv x (n:=1) (by decide)
    have b2:=λx=>Zdv x (n:=2) (by decide)
    have b3:=λx=>Zdv x (n:=3) (by decide)
    have b4:=λx=>Zdv x (n:=4) (by decide)
    have b5:=λx=>Zdv x (n:=5) (by decide)
    have b6:=λx=>Zdv x (n:=6) (by decide)
    have b7:=λx=>Zdv x (n:=7) (by decide)
    have hv:∃a b c d:Int,(Zc0 (l,(l.length:Int),(i:Int),o,())).val=some (Go1.cont (l,(l.length:Int),((i+1:Nat):Int),o++[a,b,c,d],())):=by simp only[Zc0,RT.val,d,d2,hin,w,hb,b0,b1,b2,b3,b4,b5,b6,b7,Zdg,ZbW,Ye,Yg,Yn,Yz,Ya,Yb];exact⟨_,_,_,_,rfl⟩
    obtain⟨a,b,c,d,hv⟩:=hv;exact⟨_,hv,⟨i+1,_,by omega,by simp;omega,rfl⟩,by simp only;omega⟩
   ·right;left;have d:decide ((i:Int)<(l.length:Int))=false:=Y0 (by omega)
    exact⟨(l,(l.length:Int),(i:Int),o,()),by simp only[Zc0,RT.val,d,Yb],rfl,by simp only;omega⟩)
  (l,(l.length:Int),0,[],()) ⟨0,[],by omega,rfl,rfl⟩ (by simp only;omega)
 obtain⟨r1,r2⟩:=r;simp only at h0 h1;subst h0;have hv:(Zfg l).val=some r2.2.2.2.1:=by simp only[Zfg,RT.val,iN,hr,okB,getO,Ya]
 exact⟨by simp only[ZwM,hv];rfl,by simp only[Zjj,hv,getO];exact h1⟩
theorem Zhv (l:List Int) (hl:l.length<=4000):ZiN l=true/\(ZaC l).length=l.length/4:=by
 have hms:=mst;obtain⟨r,hr,h0,h1⟩:=Zaj (fl:=false) (t:=Zca) (fuel:=λ_=>1000000000000)
  (λa=>∃(i:Nat) (o:List INPT),4*i<=l.length/\o.length=i/\a=(l,((4*i:Nat):Int),o,()))
  (λa=>Int.toNat (l.length-a.2.1)) (λr=>r.1=false/\r.2.2.2.1.length=l.length/4)
  (by
   rintro a ⟨i,o,hi,ho,rfl⟩;have w1:IntKind.wrap .i64 (((4*i:Nat):Int)+1)=((4*i+1:Nat):Int):=by rw[Zq _ (by omega) (by omega)];omega
   have w2:IntKind.wrap .i64 (((4*i:Nat):Int)+2)=((4*i+2:Nat):Int):=by rw[Zq _ (by omega) (by omega)];omega
   have w3:IntKind.wrap .i64 (((4*i:Nat):Int)+3)=((4*i+3:Nat):Int):=by rw[Zq _ (by omega) (by omega)];omega
   have w4:IntKind.wrap .i64 (((4*i:Nat):Int)+4)=((4*(i+1):Nat):Int):=by rw[Zq _ (by omega) (by omega)];omega
   by_cases hlt:4*i+4<=l.length
   ·left;have d:(decide (((4*(i+1):Nat):Int)<=iN l.length)&&decide (iN o.length<65536))=true:=by simp only[iN,Yc,YK];omega
    have i0:Ze ((4*i:Nat):Int) l.length=true:=ZB.2 ⟨by omega,by omega⟩;have i1:Ze ((4*i+1:Nat):Int) l.length=true:=ZB.2 ⟨by omega,by omega⟩;have i2:Ze ((4*i+2:Nat):Int) l.length=true:=ZB.2 ⟨by omega,by omega⟩;have i3:Ze ((4*i+3:Nat):Int) l.length=true:=ZB.2 ⟨by omega,by omega⟩;have hb:∀a:INPT,Nat.ble (o++[a]).length most=true:=λa=>ZaN (by simp;omega)
    have hv:∃x:INPT,(Zca (l,((4*i:Nat):Int),o,())).val=some (Go1.cont (l,((4*(i+1):Nat):Int),o++[x],())):=by
     simp only[Zca,RT.val,w1,w2,w3,w4,d,i0,i1,i2,i3,hb,Zdg,ZbW,Ye,Yg,Yn,Yz,Ya,Yb];cases R.get (R.int .u8) l ((4*i+3:Nat):Int) !=Zqx (R.get (R.int .u8) l ((4*i:Nat):Int)) (R.get (R.int .u8) l ((4*i+1:Nat):Int)) (R.get (R.int .u8) l ((4*i+2:Nat):Int))
     ·exact⟨_,rfl⟩
     ·exact⟨_,rfl⟩
    obtain⟨x,hv⟩:=hv;exact⟨_,hv,⟨i+1,_,by omega,by simp;omega,rfl⟩,by simp only;omega⟩
   ·right;left;have d:(decide (((4*(i+1):Nat):Int)<=iN l.length)&&decide (iN o.length<65536))=false:=by simp only[iN,Y8,Yam];left;omega
    exact⟨(l,((4*i:Nat):Int),o,()),by simp only[Zca,RT.val,w4,d,Yb],rfl,by simp only;omega⟩)
  (l,0,[],()) ⟨0,[],by omega,rfl,rfl⟩ (by simp only;omega)
 obtain⟨r1,r2⟩:=r;simp only at h0 h1;subst h0;have hv:(Zgq l).val=some r2.2.2.1:=by simp only[Zgq,RT.val,hr,okB,getO,Ya]
 exact⟨by simp only[ZiN,hv];rfl,by simp only[ZaC,hv,getO];exact h1⟩
abbrev MacT:=List Z4×List Cell×List Int×List (Int×Int)
theorem Zqi (l:List Z4) (m:List Cell) (t v:Int):(ZdH l m t v).length<=m.length+1:=by
 have h:=Zdj m;unfold ZdH;cases decide (ZbA l t>=0)&&(R.get GR l (ZbA l t)).2.2.1
 ·exact Yv h (Yax _)
 ·exact Yv (Zpm _ _) (by omega)
def pre (o:List (Int×Int)) (m:MacT):MacT:=(m.1,m.2.1,m.2.2.1,o++m.2.2.2)
end
end Go.Proofs.YtghoimllhpjkjaaGreat
