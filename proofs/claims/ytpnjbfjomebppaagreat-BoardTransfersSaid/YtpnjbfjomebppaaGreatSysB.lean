import Derived.Test.YtpnjbfjomebppaaGreatRunL
import Derived.Test.YtpnjbfjomebppaaGreatS3New
open Go.Proofs.Tryz (prog)
open Go.IntKind (u8 u16 i64)
set_option linter.unusedSimpArgs false
open Go Go.S3 Go.Proofs
set_option linter.unusedVariables false
set_option maxRecDepth 100000
namespace Go.Proofs.YtpnjbfjomebppaaGreat
noncomputable section
def ZQs:LS:={n:=53,Sl:=[(3,.fix (A.loc 0 0)),(5,.tip 0),(6,.code (So R.bool)),(9,.code (So rcCE)),(10,.code (So Kc)),(11,.code (So Kc))],Bx:=[[.many (R.Pq Kb Ka)]],Sg:=[⟨(R.Pq Kb Ka),75,false⟩]}
def ZDS (a:QT9):RT (Option (Go1 (QT9))):=
 let x1:Int×Int:=R.get (R.Pq Kb Ka) a.2.1 a.2.2.2.1
 let x2:=x1.1
 let x3:= !a.1&&decide (x2>=a.2.2.2.2.1.1)
 let x4:List (Int×Int):=a.2.2.2.2.2.1++[a.2.2.2.2.1]
 let x5:= !x3||(!a.2.2.2.2.1.2 !=0||Nat.ble (Le x4) most)
 let x6:=x2 !=a.2.2.2.2.1.1
 let x7:List (Int×Int):=bif x3 then bif a.2.2.2.2.1.2 !=0 then x4 else a.2.2.2.2.2.1 else a.2.2.2.2.2.1
 let x8:List (Int×Int):=x7++[x1]
 .br (decide (a.2.2.2.1<a.2.2.1)) (.br (!Zg a.2.2.2.1 (Le a.2.1)||(!x5||(!x6||Nat.ble (Le x8) most))) (.br (!Zg a.2.2.2.1 (Le a.2.1)||x5) (.br (Zg a.2.2.2.1 (Le a.2.1)) (Ls (Go1.cont (x3||a.1,a.2.1,a.2.2.1,i64.wrap (a.2.2.2.1+1),a.2.2.2.2.1,bif x6 then x8 else x7,PUnit.unit))) Ln) Ln) Ln) (Ls (Go1.brk (a.1,a.2.1,a.2.2.1,a.2.2.2.1,a.2.2.2.2.1,a.2.2.2.2.2.1,PUnit.unit)))
def ZDT:Ora:=Zbi false ZQs ZDS (λa=>1000000000000)
theorem ZGF:ZaM (envX prog [] [] 511 8) (.block 0 (.loop (Z5 Tryz.f165.body 0))) ZDT:=
 loopP trivial
def ZDR (m:List (Int×Int)) (c:Int×Int):RT (Option (List (Int×Int))):=
 let x1:QT9:=(false,m,iN (Le m),0,c,[],())
 let x2:=runF false ZDS (λa=>1000000000000) x1
 let x3:QT9:=(getO (false,x1) x2).2
 let x4:=x3.2.2.2.2
 let x5:=x4.1
 let x6:= !x3.1&&x5.2 !=0
 let x7:=x4.2.1
 let x8:List (Int×Int):=x7++[x5]
 .br (okB x2) (.br (!x6||Nat.ble (Le x8) most) (Ls (bif x6 then x8 else x7)) Ln) Ln
def ZQt (m:List (Int×Int)) (c:Int×Int):List (Int×Int):=getO [] (ZDR m c).val
def ZDU (m:List (Int×Int)) (c:Int×Int):Bool:=okB (ZDR m c).val
def ZKE:En:=frzE (newE ZcO Zr3 ZKG (λa=>some (ZDU a.1 a.2)) (λa=>ZQt a.1 a.2))
theorem ZKF:Zb prog 165 (newE ZcO Zr3 ZKG (λa=>some (ZDU a.1 a.2)) (λa=>ZQt a.1 a.2)):=
 Zjx (P:=prog) (n:=511) (k:=8) (l:=[]) (ol:=[(0,ZDT)]) trivial Tryz.func165 rfl (by kernel_rfl) Tryz.call165 ⟨ZGF,Tv⟩ (r:=ZcO) (T:=Zr3) (ts:=ZKG) (t:=λa=>ZDR a.1 a.2) (λa=>by kernel_rfl)
theorem ZDQ:Zb prog 165 ZKE:=Zrz ZKF
def ZKL:LS:={n:=21,Sl:=[(3,.tip 0),(10,.code (So rcCE)),(11,.code (So Kc)),(12,.code (So Kc))],Bx:=[],Sg:=[⟨(R.Pq Kb Ka),75,false⟩]}
def ZgP (a:List (Int×Int)×Int×Int×List (Int×Int)×PUnit):RT (Option (Go1 (List (Int×Int)×Int×Int×List (Int×Int)×PUnit))):=
 .br (decide (a.2.2.1<a.2.1)) (.br (!Zg a.2.2.1 (Le a.1)||ZDU a.2.2.2.1 (R.get (R.Pq Kb Ka) a.1 a.2.2.1)) (.br (Zg a.2.2.1 (Le a.1)) (Ls (Go1.cont (a.1,a.2.1,i64.wrap (a.2.2.1+1),Stg.l (newG ZcO Zr3 (ZQt a.2.2.2.1 (R.get (R.Pq Kb Ka) a.1 a.2.2.1))),PUnit.unit))) Ln) Ln) (Ls (Go1.brk (a.1,a.2.1,a.2.2.1,a.2.2.2.1,PUnit.unit)))
def ZwB:Ora:=Zbi false ZKL ZgP (λa=>1000000000000)
theorem Zz0:ZaM (envX prog [(105,ZsC),(165,ZKE)] [] 63 8) (.block 0 (.loop (Z5 Tryz.f93.body 0))) ZwB:=
 loopP ⟨ZqP,ZDQ,Tv⟩
def Zkq (l:List (Int×Int)):RT (Option (List (Int×Int))):=
 let x1:=runF false ZgP (λa=>1000000000000) (l,iN (Le l),0,[],())
 .br (smC l) (.br (!vldB l||Nat.ble (Le ([]++l)) most) (.br (vldB l) (Ls ([]++l)) (.br (okB x1) (Ls (getO (false,l,iN (Le l),0,[],()) x1).2.2.2.2.1) Ln)) Ln) Ln
def ZwC (l:List (Int×Int)):List (Int×Int):=getO [] (Zkq l).val
def Znd (l:List (Int×Int)):Bool:=okB (Zkq l).val
def Zz1:En:=frzE (newE ZcO Zr3 ZN1 (λa=>some (Znd a)) (λa=>ZwC a))
theorem ZGH:Zb prog 93 (newE ZcO Zr3 ZN1 (λa=>some (Znd a)) (λa=>ZwC a)):=
 Zjx (P:=prog) (n:=63) (k:=8) (l:=[(105,ZsC),(165,ZKE)]) (ol:=[(0,ZwB)]) ⟨ZqP,ZDQ,Tv⟩ Tryz.func93 rfl (by kernel_rfl) Tryz.call93 ⟨Zz0,Tv⟩ (r:=ZcO) (T:=Zr3) (ts:=ZN1) (t:=λa=>Zkq a) (λa=>by kernel_rfl)
theorem ZwA:Zb prog 93 Zz1:=Zrz ZGH
abbrev ZsN:List Sh:=[So Kb,So (R.sl Ka)]
def ZKN:LS:={n:=27,Sl:=[(0,.code (So Kb)),(1,.code (So (R.sl Ka))),(5,.tip 0),(8,.code (So Kc)),(9,.code (So Kc))],Bx:=[],Sg:=[⟨(R.Pq Kb Ka),75,true⟩]}
def ZgQ (a:QT32):RT (Option (Go1 (QT32))):=
 let x1:List (Int×Int):=a.2.2.2.2.1++[(u16.wrap (a.1+u16.wrap a.2.2.2.1),R.get Ka a.2.1 a.2.2.2.1)]
 let x2:= !Zg a.2.2.2.1 (Le a.2.1)||Nat.ble (Le x1) most
 .br (decide (a.2.2.2.1<a.2.2.1)) (.br (!x2||Zg a.2.2.2.1 (Le a.2.1)) (.br (x2) (Ls (Go1.cont (a.1,a.2.1,a.2.2.1,i64.wrap (a.2.2.2.1+1),x1,PUnit.unit))) Ln) Ln) (Ls (Go1.brk (a.1,a.2.1,a.2.2.1,a.2.2.2.1,a.2.2.2.2.1,PUnit.unit)))
def Zxg:Ora:=Zbi false ZKN ZgQ (λa=>1000000000000)
theorem Zz3:ZaM (envX prog [(93,Zz1)] [] 127 8) (.block 0 (.loop (Z5 Tryz.f59.body 0))) Zxg:=
 loopP ⟨ZwA,Tv⟩
def Zne (t:Int) (b:List Int):RT (Option (List (Int×Int))):=
 let x1:=runF false ZgQ (λa=>1000000000000) (t,b,iN (Le b),0,[],())
 let x2:List (Int×Int):=(getO (false,t,b,iN (Le b),0,[],()) x1).2.2.2.2.2.1
 .br (okB x1) (.br (Znd x2) (Ls (Stg.l (newG ZcO Zr3 (ZwC x2)))) Ln) Ln
def ZKO (t:Int) (b:List Int):List (Int×Int):=getO [] (Zne t b).val
def Zz4 (t:Int) (b:List Int):Bool:=okB (Zne t b).val
theorem ZGJ:Zb prog 59 (newE ZcO Zr3 ZsN (λa=>some (Zz4 a.1 a.2)) (λa=>ZKO a.1 a.2)):=
 Zjx (P:=prog) (n:=127) (k:=8) (l:=[(93,Zz1)]) (ol:=[(0,Zxg)]) ⟨ZwA,Tv⟩ Tryz.func59 rfl (by kernel_rfl) Tryz.call59 ⟨Zz3,Tv⟩ (r:=ZcO) (T:=Zr3) (ts:=ZsN) (t:=λa=>Zne a.1 a.2) (λa=>by kernel_rfl)
end
end Go.Proofs.YtpnjbfjomebppaaGreat
open Go Go.S3 Go.Proofs Go.Proofs.Cells
namespace Go.Proofs.YtpnjbfjomebppaaGreat
noncomputable section
theorem ZKo (m:List Cell) (c:Cell) (hv:Vld m) (hm:m.length+1<=most):ZDU m c=true/\ZQt m c=putX m c:=by have h:=Zwn m c hv hm;have e:ZDR m c=ZqR m c:=rfl;simp only[Zwy,ZKI,<-e] at h;exact h
theorem ZGB (l:List Cell) (hl:l.length+1<=most):Znd l=true/\ZwC l=normX l:=by
 have hms:=mst;have hs:smC l=true:=(Zwe.2 hl:sm l=true);have hv:(Zkq l).val=some (normX l):=by
  cases hb:vldB l with
  |true=>
   have e:Nat.ble l.length most=true:=by rw[YD];omega
   simp only[Zkq,RT.val,hs,hb,List.nil_append,e,Ya,Yf,Yh,ZhC (ZfF.1 hb)]
  |false=>
   obtain⟨r,hr,h1,i,hR⟩:=ZN (fl:=false) (t:=ZgP) (fuel:=λa=>1000000000000)
    (λa=>∃i:Nat,i<=l.length/\a=(l,(l.length:Int),(i:Int),normX (l.take i),()))
    (λa=>Int.toNat (a.2.1-a.2.2.1)) (λr=>r.1=false/\∃i:Nat,r.2=(l,(l.length:Int),(i:Int),normX l,()))
    (by
     rintro a ⟨i,hi,rfl⟩;by_cases hlt:i<l.length
     ·left;have d:decide ((i:Int)<(l.length:Int))=true:=by simpa using hlt
      have r1:=ZaO l i hlt;have hlen:=Zeq (l.take i);rw[YK] at hlen;have hp:=ZKo (normX (l.take i)) (el l i) (Zep _) (by omega);refine⟨_,?_,⟨i+1,hlt,rfl⟩,by simp only;omega⟩;rw[Zzx l i hlt,ZkG];simp only[ZgP,RT.val,d,r1,ZcV,hp.1,hp.2,Ya,Yk,ZiG i (by omega)]
     ·right;left;have d:decide ((i:Int)<(l.length:Int))=false:=by simpa using hlt
      have e:l.take i=l:=Y4 (by omega);rw[e]
      exact⟨_,by simp only[ZgP,RT.val,d,Yb],rfl,i,rfl⟩)
    (l,iN l.length,0,[],()) ⟨0,Yv _,rfl⟩ (by simp only[iN,Le];omega)
   obtain⟨r1,r2⟩:=r;simp only at h1 hR;subst h1 hR;simp only[Zkq,RT.val,hs,hb,hr,okB,getO,Ya,Yb,Ym,Yt]
 exact⟨by simp only[Znd,hv];rfl,by simp only[ZwC,hv,getO]⟩
theorem ZGC (t:Int) (b:List Int) (hb:b.length+1<=most):Zz4 t b=true/\ZKO t b=Zfu t b:=by
 have hms:=mst;obtain⟨r,hr,h1,hR⟩:=ZN (fl:=false) (t:=ZgQ) (fuel:=λa=>1000000000000)
  (λa=>∃i:Nat,i<=b.length/\a=(t,b,(b.length:Int),(i:Int),Zix t b i,()))
  (λa=>Int.toNat (a.2.2.1-a.2.2.2.1)) (λr=>r.1=false/\r.2=(t,b,(b.length:Int),(b.length:Int),Zix t b b.length,()))
  (by
   rintro a ⟨i,hi,rfl⟩;by_cases hlt:i<b.length
   ·left;have d:decide ((i:Int)<(b.length:Int))=true:=by simpa using hlt
    have r1:=ZaO b i hlt;have hl:∀x:Cell,Nat.ble (Zix t b i++[x]).length most=true:=λx=>by rw[YD,Yd,ZjK];simp only[List.length_singleton];omega
    refine⟨_,?_,⟨i+1,hlt,rfl⟩,by simp only;omega⟩;rw[ZIr];have g:=get_d b i;simp only[ZgQ,RT.val,d,r1,g,hl,Ya,Yf,Yh,ZiG i (by omega)]
   ·right;left;have d:decide ((i:Int)<(b.length:Int))=false:=by simpa using hlt
    have e:i=b.length:=by omega
    subst e
    exact⟨_,by simp only[ZgQ,RT.val,d,Yb],rfl,rfl⟩)
  (t,b,iN b.length,0,[],()) ⟨0,Yv _,rfl⟩ (by simp only[iN,Le];omega)
 obtain⟨r1,r2⟩:=r;simp only at h1 hR;subst h1 hR;have hn:=ZGB (Zix t b b.length) (by rw[ZjK];exact hb);have hv:(Zne t b).val=some (Zfu t b):=by simp only[Zne,RT.val,hr,okB,getO,Ya,hn.1,hn.2,Zfu]
 exact⟨by simp only[Zz4,hv];rfl,by simp only[ZKO,hv,getO]⟩
def Zhx:En:=frzE (newE ZcO Zr3 ZsN (λa=>some (smB a.2)) (λa=>Zfu a.1 a.2))
theorem Zfm:Zb Tryz.prog 59 Zhx:=Zrz (ZIa ZGJ λa _ h=>by
 have hb:smB a.2=true:=by cases hq:smB a.2 with
  |true=>rfl
  |false=>rw[hq] at h;exact absurd rfl h
 obtain⟨h1,h2⟩:=ZGC a.1 a.2 (Zwe.1 hb)
 exact⟨by rw[h1];simp,h2⟩)
def ZFt (s:List Int×Int):RT (Option (Bool×List Int×Int)):=
 .br (Zo s 2) (Ls (((Za s 2).1==1,(Za s 2).2))) Ln
def Zaj (s:List Int×Int):Bool×List Int×Int:=getO (ZnX.Df,ZCf.Df) (ZFt s).val
def Zbw (s:List Int×Int):Bool:=okB (ZFt s).val
def ZTH:En:=boxE ZCf Zxj ZnX (λa=>some (Zbw a.1)) (λa=>Zaj a.1)
theorem ZRK:Zb prog 69 ZTH:=
 ZcF (P:=prog) (n:=7) (k:=8) (l:=[(68,ZcQ)]) (ol:=[]) ⟨Zbf,Tv⟩ Tryz.func69 rfl (by kernel_rfl) Tryz.call69 trivial (rb:=ZCf) (ts:=Zxj) (rs:=ZnX) (t:=λa=>ZFt a.1) (λa=>by kernel_rfl)
abbrev Zd3:R:=R.Pq Kb (R.Pq Kb (R.Pq R.bool Kc))
abbrev Zd4:Nat:=110
def ZCb:LS:={n:=44,Sl:=[(0,.fix (A.loc 0 0)),(5,.tip 0),(6,.code (So Kc))],Bx:=[[.many (R.Pq (R.sl Kc) Kc)]],Sg:=[⟨(R.Pq Kb (R.Pq Kb (R.Pq R.bool Kc))),110,false⟩]}
def Zb8 (a:QT24):RT (Option (Go1 (QT24))):=
 let x1:= !Zo (ZaQ a.2.1).2 6||Zg (Za (ZaQ a.2.1).2 6).1 (Le [0,3,15,255,4095,65535])
 let x2:= !x1
 let x3:= !Zo (Za (Za (ZaQ a.2.1).2 6).2 3).2 5
 let x4:Int:=(Za (Za (Za (ZaQ a.2.1).2 6).2 3).2 5).1
 let x5:=Zg x4 (Le [0,0,1,2,5])
 let x6:=i64.wrap (i64.wrap (ZaQ a.2.1).1+R.get Kc [0,3,15,255,4095,65535] (Za (ZaQ a.2.1).2 6).1)
 let x7:List (QT7):=a.2.2.1++[((ZaQ a.2.1).1,u16.wrap (if 65535<x6 then 65535 else x6),decide ((Za (Za (ZaQ a.2.1).2 6).2 3).1>0),R.get Kc [0,0,1,2,5] x4)]
 let x8:= !Zo (Za (ZaQ a.2.1).2 6).2 3||(x3||(!x5||Nat.ble (Le x7) most))
 let x9:= !x8
 let x10:= !Zo (Za (ZaQ a.2.1).2 6).2 3||(x3||x5)
 let x11:= !x10
 let x12:= !Zo (Za (ZaQ a.2.1).2 6).2 3||Zo (Za (Za (ZaQ a.2.1).2 6).2 3).2 5
 .br (decide (a.1>0)) (.br (!Zgk a.2.1||(x2||(!Zo (ZaQ a.2.1).2 6||(x9||(x11||(!x12||Zo (Za (ZaQ a.2.1).2 6).2 3)))))) (.br (!Zgk a.2.1||(x2||(!Zo (ZaQ a.2.1).2 6||(x9||(x11||x12))))) (.br (!Zgk a.2.1||(x2||(!Zo (ZaQ a.2.1).2 6||(x9||x10)))) (.br (!Zgk a.2.1||(x2||(!Zo (ZaQ a.2.1).2 6||x8))) (.br (!Zgk a.2.1||(x2||Zo (ZaQ a.2.1).2 6)) (.br (!Zgk a.2.1||x1) (.br (Zgk a.2.1) (Ls (Go1.cont (i64.wrap (a.1-1),(Za (Za (Za (ZaQ a.2.1).2 6).2 3).2 5).2,x7,PUnit.unit))) Ln) Ln) Ln) Ln) Ln) Ln) Ln) (Ls (Go1.brk (a.1,a.2.1,a.2.2.1,PUnit.unit)))
def ZoR:Ora:=Zbi false ZCb Zb8 (λa=>400)
theorem ZuN:ZaM (envX prog [(68,ZcQ),(70,ZNG)] [] 511 8) (.block 0 (.loop (Z5 Tryz.f188.body 0))) ZoR:=
 loopP ⟨Zbf,ZFo,Tv⟩
def Zes (s:List Int×Int) (n:Int):RT (Option (List (QT7)×List Int×Int)):=
 let x1:QT24:=((Za s (i64.wrap (n+1))).1,(Za s (i64.wrap (n+1))).2,[],())
 let x2:=runF false Zb8 (λa=>400) x1
 let x3:(List Int×Int)×List (QT7)×PUnit:=(getO (false,x1) x2).2.2
 .br (Zo s (i64.wrap (n+1))) (.br (okB x2) (Ls ((x3.2.1,x3.1))) Ln) Ln
def ZU (s:List Int×Int) (n:Int):List (QT7)×List Int×Int:=getO ([],ZCf.Df) (Zes s n).val
def Zb9 (s:List Int×Int) (n:Int):Bool:=okB (Zes s n).val
def Zya:En:=frzE (ZIc ZCf Zd3 Zd4 ZxE (λa=>some (Zb9 a.1 a.2)) (λa=>ZU a.1 a.2))
theorem Zyb:Zb prog 188 (ZIc ZCf Zd3 Zd4 ZxE (λa=>some (Zb9 a.1 a.2)) (λa=>ZU a.1 a.2)):=
 ZNC (P:=prog) (n:=511) (k:=8) (l:=[(68,ZcQ),(70,ZNG)]) (ol:=[(0,ZoR)]) ⟨Zbf,ZFo,Tv⟩ Tryz.func188 rfl (by kernel_rfl) Tryz.call188 ⟨ZuN,Tv⟩ (rb:=ZCf) (r:=Zd3) (T:=Zd4) (ts:=ZxE) (t:=λa=>Zes a.1 a.2) (λa=>by kernel_rfl)
theorem ZB9:Zb prog 188 Zya:=Zrz Zyb
abbrev ZNJ:Rs:=Rs.one (So rcRG)
def ZCh (s:List Int×Int):RT (Option (List (QT7)×List Int×Int)):=
 let x1:List (QT7):=Stg.l (newG Zd3 Zd4 (ZU s 2).1)++[(0,65535,true,i64.wrap (Int.tdiv (Za (ZU s 2).2 3).1 2))]
 .br (!Zb9 s 2||(!Zo (ZU s 2).2 3||Nat.ble (Le x1) most)) (.br (!Zb9 s 2||Zo (ZU s 2).2 3) (.br (Zb9 s 2) (Ls ((x1,(Za (ZU s 2).2 3).2))) Ln) Ln) Ln
def nMap (s:List Int×Int):List (QT7)×List Int×Int:=getO (ZNJ.Df,ZCf.Df) (ZCh s).val
def ZIf (s:List Int×Int):Bool:=okB (ZCh s).val
def ZWh:En:=boxE ZCf Zxj ZNJ (λa=>some (ZIf a.1)) (λa=>nMap a.1)
theorem ZNI:Zb prog 123 ZWh:=
 ZcF (P:=prog) (n:=7) (k:=8) (l:=[(68,ZcQ),(188,Zya)]) (ol:=[]) ⟨Zbf,ZB9,Tv⟩ Tryz.func123 rfl (by kernel_rfl) Tryz.call123 trivial (rb:=ZCf) (ts:=Zxj) (rs:=ZNJ) (t:=λa=>ZCh a.1) (λa=>by kernel_rfl)
def ZCd:LS:={n:=75,Sl:=[(0,.fix (A.loc 0 0)),(5,.tip 0),(6,.code (So Kc))],Bx:=[[.many (R.Pq (R.sl Kc) Kc)]],Sg:=[⟨Ka,5,true⟩]}
def Zdd (a:QT30):RT (Option (Go1 (QT30))):=
 let x1:=Zg (Za (Za a.2.1 8).2 4).1 (Le [33,49,1,17])
 let x2:= !x1
 let x3:=Zo (Za (Za (Za a.2.1 8).2 4).2 256).2 4
 let x4:= !x3
 let x5:=Za (Za (Za (Za a.2.1 8).2 4).2 256).2 4
 let x6:=x5.1
 let x7:=Zg x6 (Le [0,0,1,255])
 let x8:List Int:=a.2.2.1++[R.get Ka [33,49,1,17] (Za (Za a.2.1 8).2 4).1,u8.wrap (Za (Za (Za a.2.1 8).2 4).2 256).1,R.get Ka [0,0,1,255] x6]
 let x9:= !(Za a.2.1 8).1==0||(!Zo (Za a.2.1 8).2 4||(x2||(!Zo (Za (Za a.2.1 8).2 4).2 256||(x4||(!x7||Nat.ble (Le x8) most)))))
 let x10:= !x9
 let x11:= !(Za a.2.1 8).1==0||(!Zo (Za a.2.1 8).2 4||(x2||(!Zo (Za (Za a.2.1 8).2 4).2 256||(x4||x7))))
 let x12:= !x11
 let x13:= !(Za a.2.1 8).1==0||(!Zo (Za a.2.1 8).2 4||(x2||(!Zo (Za (Za a.2.1 8).2 4).2 256||x3)))
 let x14:= !x13
 let x15:= !(Za a.2.1 8).1==0||(!Zo (Za a.2.1 8).2 4||(x2||Zo (Za (Za a.2.1 8).2 4).2 256))
 let x16:= !x15
 let x17:= !(Za a.2.1 8).1==0||(!Zo (Za a.2.1 8).2 4||x1)
 let x18:= !x17
 let x19:= !(Za a.2.1 8).1==0||Zo (Za a.2.1 8).2 4
 let x20:= !x19
 let x21:List Int:=a.2.2.1++[62,(Zc2 (Za a.2.1 8).2).1,211,u8.wrap (Za (Zc2 (Za a.2.1 8).2).2 8).1]
 let x22:=(Za a.2.1 8).1==0||(!(Za a.2.1 8).1==1||(!Zg3 (Za a.2.1 8).2||(!Zo (Zc2 (Za a.2.1 8).2).2 8||Nat.ble (Le x21) most)))
 let x23:= !x22
 let x24:=(Za a.2.1 8).1==0||(!(Za a.2.1 8).1==1||(!Zg3 (Za a.2.1 8).2||Zo (Zc2 (Za a.2.1 8).2).2 8))
 let x25:= !x24
 let x26:=(Za a.2.1 8).1==0||(!(Za a.2.1 8).1==1||Zg3 (Za a.2.1 8).2)
 let x27:= !x26
 let x28:=(Za a.2.1 8).1==0||((Za a.2.1 8).1==1||(!(Za a.2.1 8).1==2||Nat.ble (Le (a.2.2.1++[251])) most))
 let x29:= !x28
 let x30:List Int:=a.2.2.1++[62,u8.wrap (i64.wrap (16+(Za (Za a.2.1 8).2 16).1)),211,0,62,(Zc2 (Za (Za a.2.1 8).2 16).2).1,211,1,62,0,211,1]
 let x31:=(Za a.2.1 8).1==0||((Za a.2.1 8).1==1||((Za a.2.1 8).1==2||(!(Za a.2.1 8).1==3||(!Zo (Za a.2.1 8).2 16||(!Zg3 (Za (Za a.2.1 8).2 16).2||Nat.ble (Le x30) most)))))
 let x32:= !x31
 let x33:=(Za a.2.1 8).1==0||((Za a.2.1 8).1==1||((Za a.2.1 8).1==2||(!(Za a.2.1 8).1==3||(!Zo (Za a.2.1 8).2 16||Zg3 (Za (Za a.2.1 8).2 16).2))))
 let x34:= !x33
 let x35:=(Za a.2.1 8).1==0||((Za a.2.1 8).1==1||((Za a.2.1 8).1==2||(!(Za a.2.1 8).1==3||Zo (Za a.2.1 8).2 16)))
 let x36:= !x35
 let x37:= !Zo (Za (Zam (Za a.2.1 8).2).2 64).2 4
 let x38:Int:=(Za (Za (Zam (Za a.2.1 8).2).2 64).2 4).1
 let x39:=Zg x38 (Le [0,0,1,255])
 let x40:List Int:=a.2.2.1++[(Zam (Za a.2.1 8).2).1,u8.wrap (Za (Zam (Za a.2.1 8).2).2 64).1,R.get Ka [0,0,1,255] x38]
 let x41:=(Za a.2.1 8).1==0||((Za a.2.1 8).1==1||((Za a.2.1 8).1==2||((Za a.2.1 8).1==3||(!Zcm (Za a.2.1 8).2||(!Zo (Zam (Za a.2.1 8).2).2 64||(x37||(!x39||Nat.ble (Le x40) most)))))))
 let x42:= !x41
 let x43:=(Za a.2.1 8).1==0||((Za a.2.1 8).1==1||((Za a.2.1 8).1==2||((Za a.2.1 8).1==3||(!Zcm (Za a.2.1 8).2||(!Zo (Zam (Za a.2.1 8).2).2 64||(x37||x39))))))
 let x44:= !x43
 let x45:=(Za a.2.1 8).1==0||((Za a.2.1 8).1==1||((Za a.2.1 8).1==2||((Za a.2.1 8).1==3||(!Zcm (Za a.2.1 8).2||(!Zo (Zam (Za a.2.1 8).2).2 64||Zo (Za (Zam (Za a.2.1 8).2).2 64).2 4)))))
 let x46:= !x45
 let x47:=(Za a.2.1 8).1==0||((Za a.2.1 8).1==1||((Za a.2.1 8).1==2||((Za a.2.1 8).1==3||(!Zcm (Za a.2.1 8).2||Zo (Zam (Za a.2.1 8).2).2 64))))
 let x48:=x10||(x12||(x14||(x16||(x18||(x20||(x23||(x25||(x27||(x29||(x32||(x34||(x36||(x42||(x44||(x46||(!x47||((Za a.2.1 8).1==0||((Za a.2.1 8).1==1||((Za a.2.1 8).1==2||((Za a.2.1 8).1==3||Zcm (Za a.2.1 8).2))))))))))))))))))))
 let x49:= !x48
 let x50:=x10||(x12||(x14||(x16||(x18||(x20||(x23||(x25||(x27||(x29||(x32||(x34||(x36||(x42||(x44||(x46||x47)))))))))))))))
 let x51:= !x50
 let x52:=x10||(x12||(x14||(x16||(x18||(x20||(x23||(x25||(x27||(x29||(x32||(x34||(x36||(x42||(x44||x45))))))))))))))
 let x53:= !x52
 let x54:=x10||(x12||(x14||(x16||(x18||(x20||(x23||(x25||(x27||(x29||(x32||(x34||(x36||(x42||x43)))))))))))))
 let x55:= !x54
 let x56:=x10||(x12||(x14||(x16||(x18||(x20||(x23||(x25||(x27||(x29||(x32||(x34||(x36||x41))))))))))))
 let x57:= !x56
 let x58:=x10||(x12||(x14||(x16||(x18||(x20||(x23||(x25||(x27||(x29||(x32||(x34||x35)))))))))))
 let x59:= !x58
 let x60:=x10||(x12||(x14||(x16||(x18||(x20||(x23||(x25||(x27||(x29||(x32||x33))))))))))
 let x61:= !x60
 let x62:=x10||(x12||(x14||(x16||(x18||(x20||(x23||(x25||(x27||(x29||x31)))))))))
 let x63:= !x62
 let x64:=x10||(x12||(x14||(x16||(x18||(x20||(x23||(x25||(x27||x28))))))))
 let x65:= !x64
 let x66:=x10||(x12||(x14||(x16||(x18||(x20||(x23||(x25||x26)))))))
 let x67:= !x66
 let x68:=x10||(x12||(x14||(x16||(x18||(x20||(x23||x24))))))
 let x69:= !x68
 let x70:=x10||(x12||(x14||(x16||(x18||(x20||x22)))))
 let x71:= !x70
 let x72:=x10||(x12||(x14||(x16||(x18||x19))))
 let x73:= !x72
 let x74:=x10||(x12||(x14||(x16||x17)))
 let x75:= !x74
 let x76:=x10||(x12||(x14||x15))
 let x77:= !x76
 let x78:=x10||(x12||x13)
 let x79:= !x78
 let x80:=x10||x11
 let x81:List Int×Int:=(Za (Za (Zam (Za a.2.1 8).2).2 64).2 4).2
 .br (decide (a.1>0)) (.br (!Zo a.2.1 8||(x49||(x51||(x53||(x55||(x57||(x59||(x61||(x63||(x65||(x67||(x69||(x71||(x73||(x75||(x77||(x79||(!x80||x9)))))))))))))))))) (.br (!Zo a.2.1 8||(x49||(x51||(x53||(x55||(x57||(x59||(x61||(x63||(x65||(x67||(x69||(x71||(x73||(x75||(x77||(x79||x80))))))))))))))))) (.br (!Zo a.2.1 8||(x49||(x51||(x53||(x55||(x57||(x59||(x61||(x63||(x65||(x67||(x69||(x71||(x73||(x75||(x77||x78)))))))))))))))) (.br (!Zo a.2.1 8||(x49||(x51||(x53||(x55||(x57||(x59||(x61||(x63||(x65||(x67||(x69||(x71||(x73||(x75||x76))))))))))))))) (.br (!Zo a.2.1 8||(x49||(x51||(x53||(x55||(x57||(x59||(x61||(x63||(x65||(x67||(x69||(x71||(x73||x74)))))))))))))) (.br (!Zo a.2.1 8||(x49||(x51||(x53||(x55||(x57||(x59||(x61||(x63||(x65||(x67||(x69||(x71||x72))))))))))))) (.br (!Zo a.2.1 8||(x49||(x51||(x53||(x55||(x57||(x59||(x61||(x63||(x65||(x67||(x69||x70)))))))))))) (.br (!Zo a.2.1 8||(x49||(x51||(x53||(x55||(x57||(x59||(x61||(x63||(x65||(x67||x68))))))))))) (.br (!Zo a.2.1 8||(x49||(x51||(x53||(x55||(x57||(x59||(x61||(x63||(x65||x66)))))))))) (.br (!Zo a.2.1 8||(x49||(x51||(x53||(x55||(x57||(x59||(x61||(x63||x64))))))))) (.br (!Zo a.2.1 8||(x49||(x51||(x53||(x55||(x57||(x59||(x61||x62)))))))) (.br (!Zo a.2.1 8||(x49||(x51||(x53||(x55||(x57||(x59||x60))))))) (.br (!Zo a.2.1 8||(x49||(x51||(x53||(x55||(x57||x58)))))) (.br (!Zo a.2.1 8||(x49||(x51||(x53||(x55||x56))))) (.br (!Zo a.2.1 8||(x49||(x51||(x53||x54)))) (.br (!Zo a.2.1 8||(x49||(x51||x52))) (.br (!Zo a.2.1 8||(x49||x50)) (.br (!Zo a.2.1 8||x48) (.br (Zo a.2.1 8) (.br ((Za a.2.1 8).1==0) (Ls (Go1.cont (i64.wrap (a.1-1),x5.2,x8,PUnit.unit))) (.br ((Za a.2.1 8).1==1) (Ls (Go1.cont (i64.wrap (a.1-1),(Za (Zc2 (Za a.2.1 8).2).2 8).2,x21,PUnit.unit))) (.br ((Za a.2.1 8).1==2) (Ls (Go1.cont (i64.wrap (a.1-1),(Za a.2.1 8).2,a.2.2.1++[251],PUnit.unit))) (Ls (Go1.cont (i64.wrap (a.1-1),(bif (Za a.2.1 8).1==3 then (Zc2 (Za (Za a.2.1 8).2 16).2).2.1 else x81.1,bif (Za a.2.1 8).1==3 then (Zc2 (Za (Za a.2.1 8).2 16).2).2.2 else x81.2),bif (Za a.2.1 8).1==3 then x30 else x40,PUnit.unit)))))) Ln) Ln) Ln) Ln) Ln) Ln) Ln) Ln) Ln) Ln) Ln) Ln) Ln) Ln) Ln) Ln) Ln) Ln) Ln) (Ls (Go1.brk (a.1,a.2.1,a.2.2.1,PUnit.unit)))
def ZoT:Ora:=Zbi false ZCd Zdd (λa=>400)
theorem ZuO:ZaM (envX prog [(68,ZcQ),(71,Zyh),(119,ZhF)] [] 9511883889056940159 8) (.block 0 (.loop (Z5 Tryz.f124.body 0))) ZoT:=
 loopP ⟨Zbf,Zmc,Zfq,Tv⟩
def Zg1 (s:List Int×Int) (n:Int):RT (Option (List Int×List Int×Int)):=
 let x1:QT30:=((Za s (i64.wrap (n+1))).1,(Za s (i64.wrap (n+1))).2,[],())
 let x2:=runF false Zdd (λa=>400) x1
 let x3:(List Int×Int)×List Int×PUnit:=(getO (false,x1) x2).2.2
 .br (Zo s (i64.wrap (n+1))) (.br (okB x2) (Ls ((x3.2.1,x3.1))) Ln) Ln
def Zcl (s:List Int×Int) (n:Int):List Int×List Int×Int:=getO (Zmz.Df,ZCf.Df) (Zg1 s n).val
def Zg2 (s:List Int×Int) (n:Int):Bool:=okB (Zg1 s n).val
def ZoU:En:=boxE ZCf ZxE Zmz (λa=>some (Zg2 a.1 a.2)) (λa=>Zcl a.1 a.2)
theorem ZoS:Zb prog 124 ZoU:=
 ZcF (P:=prog) (n:=9511883889056940159) (k:=8) (l:=[(68,ZcQ),(71,Zyh),(119,ZhF)]) (ol:=[(0,ZoT)]) ⟨Zbf,Zmc,Zfq,Tv⟩ Tryz.func124 rfl (by kernel_rfl) Tryz.call124 ⟨ZuO,Tv⟩ (rb:=ZCf) (ts:=ZxE) (rs:=Zmz) (t:=λa=>Zg1 a.1 a.2) (λa=>by kernel_rfl)
abbrev ZuR:Rs:=Rs.one (Sh.agg (R.Pq Kc (R.Pq rcRG (R.Pq Kc (R.Pq Ka (R.Pq Ka (R.Pq R.bool rcCE)))))))
def ZNR:LS:={n:=50,Sl:=[(0,.fix (A.loc 0 0)),(2,.fix (A.loc 1 0)),(3,.fix (A.loc 2 0)),(4,.tip 0),(5,.code (So Kc))],Bx:=[[.many (R.Pq (R.sl Kc) Kc)],[.many (R.Pq Kc (R.Pq rcRG (R.Pq Kc (R.Pq Ka (R.Pq Ka (R.Pq R.bool rcCE))))))],[.many (R.Pq Kc (R.Pq rcRG (R.Pq Kc (R.Pq Ka (R.Pq Ka (R.Pq R.bool rcCE))))))]],Sg:=[⟨R.Pq Kb Ka,75,true⟩]}
def Zfs (a:QT23):RT (Option (Go1 (QT23))):=
 let x1:=Zg (Za a.2.1 6).1 (Le [36,60,52,44,56,32])
 let x2:= !x1
 let x3:List Int:=[(Zam (Za a.2.1 6).2).1,251,201]
 let x4:=smB x3
 let x5:List (Int×Int):=a.2.2.2.2.1++Stg.l (newG ZcO Zr3 (Zfu (u16.wrap (R.get Kc [36,60,52,44,56,32] (Za a.2.1 6).1)) x3))
 let x6:= !Zo a.2.1 6||(x2||(!Zcm (Za a.2.1 6).2||(!x4||Nat.ble (Le x5) most)))
 let x7:= !x6
 let x8:= !Zo a.2.1 6||(x2||(!Zcm (Za a.2.1 6).2||x4))
 let x9:= !x8
 let x10:= !Zo a.2.1 6||(x2||Zcm (Za a.2.1 6).2)
 let x11:= !x10
 let x12:= !Zo a.2.1 6||x1
 .br (decide (a.1>0)) (.br (x7||(x9||(x11||(!x12||Zo a.2.1 6)))) (.br (x7||(x9||(x11||x12))) (.br (x7||(x9||x10)) (.br (x7||x8) (.br (x6) (Ls (Go1.cont (i64.wrap (a.1-1),(Zam (Za a.2.1 6).2).2,a.2.2.1,a.2.2.2.1,x5,PUnit.unit))) Ln) Ln) Ln) Ln) Ln) (Ls (Go1.brk (a.1,a.2.1,a.2.2.1,a.2.2.2.1,a.2.2.2.2.1,PUnit.unit)))
def Zyi:Ora:=Zbi false ZNR Zfs (λa=>400)
theorem ZCo:ZaM (envX prog [(59,Zhx),(68,ZcQ),(71,Zyh),(93,Zz2),(119,ZhF),(122,ZNO),(123,ZWh),(124,ZoU)] [] 63 8) (.block 0 (.loop (Z5 Tryz.f66.body 0))) Zyi:=
 loopP ⟨Zfm,Zbf,Zmc,ZwD,Zfq,ZFu,ZNI,ZoS,Tv⟩
def Zo5 (s:List Int×Int):RT (Option (BRDT×List Int×Int)):=
 let x1:=(Za (Za (Za (nMap (ZaZ s).2).2 3).2 4).2 6).1==0
 let x2:= !x1
 let x3:List Int×Int:=(Za (Za (Za (nMap (ZaZ s).2).2 3).2 4).2 6).2
 let x4:=Zg3 x3
 let x5:=Zc2 x3
 let x6:=x5.2
 let x7:=Zc2 x6
 let x8:=x7.2
 let x9:List Int×Int:=(bif x1 then x8.1 else x3.1,bif x1 then x8.2 else x3.2)
 let x10:=Zg2 x9 12
 let x11:=Zcl x9 12
 let x12:=x11.1
 let x13:=x11.2
 let x14:=Za x13 4
 let x15:QT23:=(x14.1,x14.2,(0,[],0,0,0,false,[]),((ZaZ s).1,(nMap (ZaZ s).2).1,(Za (nMap (ZaZ s).2).2 3).1,bif x1 then x5.1 else 0,bif x1 then x7.1 else 4,(Za (Za (nMap (ZaZ s).2).2 3).2 4).1==0,[]),Stg.l (newG ZcO Zr3 (Zfu 0 x12)),())
 let x16:=runF false Zfs (λa=>400) x15
 let x17:(List Int×Int)×BRDT×BRDT×List (Int×Int)×PUnit:=(getO (false,x15) x16).2.2
 let x18:=x17.2.2
 let x19:=x18.2.1
 let x20:=x18.1
 let x21:=x20.2
 let x22:=x21.2
 let x23:=x22.2
 let x24:=x23.2
 .br (!Zo3 s||(!ZIf (ZaZ s).2||(!Zo (nMap (ZaZ s).2).2 3||Zo (Za (nMap (ZaZ s).2).2 3).2 4))) (.br (!Zo3 s||(!ZIf (ZaZ s).2||Zo (nMap (ZaZ s).2).2 3)) (.br (!Zo3 s||ZIf (ZaZ s).2) (.br (Zo3 s) (.br (Zo (Za (Za (nMap (ZaZ s).2).2 3).2 4).2 6) (.br (x2||(!x4||Zg3 x6)) (.br (x2||x4) (.br (!x10||smB x12) (.br (x10) (.br (Zo x13 4) (.br (okB x16) (.br (smC x19) (Ls (((x20.1,x21.1,x22.1,x23.1,x24.1,x24.2.1,Cells.normX x19),x17.1))) Ln) Ln) Ln) Ln) Ln) Ln) Ln) Ln) Ln) Ln) Ln) Ln
def ZbX (s:List Int×Int):BRDT×List Int×Int:=getO (ZuR.Df,ZCf.Df) (Zo5 s).val
def Zo6 (s:List Int×Int):Bool:=okB (Zo5 s).val
def ZNS:En:=boxE ZCf Zxj ZuR (λa=>some (Zo6 a.1)) (λa=>ZbX a.1)
theorem ZNQ:Zb prog 66 ZNS:=
 ZcF (P:=prog) (n:=63) (k:=8) (l:=[(59,Zhx),(68,ZcQ),(71,Zyh),(93,Zz2),(119,ZhF),(122,ZNO),(123,ZWh),(124,ZoU)]) (ol:=[(0,Zyi)]) ⟨Zfm,Zbf,Zmc,ZwD,Zfq,ZFu,ZNI,ZoS,Tv⟩ Tryz.func66 rfl (by kernel_rfl) Tryz.call66 ⟨ZCo,Tv⟩ (rb:=ZCf) (ts:=Zxj) (rs:=ZuR) (t:=λa=>Zo5 a.1) (λa=>by kernel_rfl)
def Zo1 (s:List Int×Int):RT (Option (INPT×List Int×Int)):=
 let x1:=decide ((Za s 64).1<30)||(decide ((Za s 64).1<36)||(decide ((Za s 64).1<40)||(!decide ((Za s 64).1<46)||Zo (Za s 64).2 256)))
 let x2:= !x1
 let x3:=decide ((Za s 64).1<30)||(decide ((Za s 64).1<36)||(decide ((Za s 64).1<40)||(decide ((Za s 64).1<46)||(decide ((Za s 64).1<50)||(decide ((Za s 64).1<53)||(decide ((Za s 64).1<55)||((Za s 64).1==55||(!decide ((Za s 64).1<60)||Zcm (Za s 64).2))))))))
 let x4:= !x3
 let x5:= !Zbw (Zaj (Zaj (Zaj (Zaj (Za s 64).2).2).2).2).2
 let x6:List Int×Int:=(Zaj (Zaj (Zaj (Zaj (Zaj (Za s 64).2).2).2).2).2).2
 let x7:=Zo x6 256
 let x8:=Za x6 256
 let x9:=x8.2
 let x10:=decide ((Za s 64).1<30)||(decide ((Za s 64).1<36)||(decide ((Za s 64).1<40)||(decide ((Za s 64).1<46)||(decide ((Za s 64).1<50)||(decide ((Za s 64).1<53)||(decide ((Za s 64).1<55)||((Za s 64).1==55||(decide ((Za s 64).1<60)||(!Zbw (Za s 64).2||(!Zbw (Zaj (Za s 64).2).2||(!Zbw (Zaj (Zaj (Za s 64).2).2).2||(!Zbw (Zaj (Zaj (Zaj (Za s 64).2).2).2).2||(x5||(!x7||Zo x9 256))))))))))))))
 let x11:= !x10
 let x12:=decide ((Za s 64).1<30)||(decide ((Za s 64).1<36)||(decide ((Za s 64).1<40)||(decide ((Za s 64).1<46)||(decide ((Za s 64).1<50)||(decide ((Za s 64).1<53)||(decide ((Za s 64).1<55)||((Za s 64).1==55||(decide ((Za s 64).1<60)||(!Zbw (Za s 64).2||(!Zbw (Zaj (Za s 64).2).2||(!Zbw (Zaj (Zaj (Za s 64).2).2).2||(!Zbw (Zaj (Zaj (Zaj (Za s 64).2).2).2).2||(x5||x7)))))))))))))
 let x13:= !x12
 let x14:=decide ((Za s 64).1<30)||(decide ((Za s 64).1<36)||(decide ((Za s 64).1<40)||(decide ((Za s 64).1<46)||(decide ((Za s 64).1<50)||(decide ((Za s 64).1<53)||(decide ((Za s 64).1<55)||((Za s 64).1==55||(decide ((Za s 64).1<60)||(!Zbw (Za s 64).2||(!Zbw (Zaj (Za s 64).2).2||(!Zbw (Zaj (Zaj (Za s 64).2).2).2||(!Zbw (Zaj (Zaj (Zaj (Za s 64).2).2).2).2||Zbw (Zaj (Zaj (Zaj (Zaj (Za s 64).2).2).2).2).2))))))))))))
 let x15:= !x14
 let x16:=decide ((Za s 64).1<30)||(decide ((Za s 64).1<36)||(decide ((Za s 64).1<40)||(decide ((Za s 64).1<46)||(decide ((Za s 64).1<50)||(decide ((Za s 64).1<53)||(decide ((Za s 64).1<55)||((Za s 64).1==55||(decide ((Za s 64).1<60)||(!Zbw (Za s 64).2||(!Zbw (Zaj (Za s 64).2).2||(!Zbw (Zaj (Zaj (Za s 64).2).2).2||Zbw (Zaj (Zaj (Zaj (Za s 64).2).2).2).2)))))))))))
 let x17:= !x16
 let x18:=decide ((Za s 64).1<30)||(decide ((Za s 64).1<36)||(decide ((Za s 64).1<40)||(decide ((Za s 64).1<46)||(decide ((Za s 64).1<50)||(decide ((Za s 64).1<53)||(decide ((Za s 64).1<55)||((Za s 64).1==55||(decide ((Za s 64).1<60)||(!Zbw (Za s 64).2||(!Zbw (Zaj (Za s 64).2).2||Zbw (Zaj (Zaj (Za s 64).2).2).2))))))))))
 let x19:= !x18
 let x20:=decide ((Za s 64).1<30)||(decide ((Za s 64).1<36)||(decide ((Za s 64).1<40)||(decide ((Za s 64).1<46)||(decide ((Za s 64).1<50)||(decide ((Za s 64).1<53)||(decide ((Za s 64).1<55)||((Za s 64).1==55||(decide ((Za s 64).1<60)||(!Zbw (Za s 64).2||Zbw (Zaj (Za s 64).2).2)))))))))
 let x21:=Za x9 256
 let x22:=x21.2
 .br (Zo s 64) (.br (x2||(x4||(x11||(x13||(x15||(x17||(x19||(!x20||(decide ((Za s 64).1<30)||(decide ((Za s 64).1<36)||(decide ((Za s 64).1<40)||(decide ((Za s 64).1<46)||(decide ((Za s 64).1<50)||(decide ((Za s 64).1<53)||(decide ((Za s 64).1<55)||((Za s 64).1==55||(decide ((Za s 64).1<60)||Zbw (Za s 64).2))))))))))))))))) (.br (x2||(x4||(x11||(x13||(x15||(x17||(x19||x20))))))) (.br (x2||(x4||(x11||(x13||(x15||(x17||x18)))))) (.br (x2||(x4||(x11||(x13||(x15||x16))))) (.br (x2||(x4||(x11||(x13||x14)))) (.br (x2||(x4||(x11||x12))) (.br (x2||(x4||x10)) (.br (x2||x3) (.br (x1) (Ls (((bif decide ((Za s 64).1<30) then Zl.1 else !decide ((Za s 64).1<36)&&bif decide ((Za s 64).1<40) then Zl.1 else bif decide ((Za s 64).1<46) then Zl.1 else bif decide ((Za s 64).1<50) then Zl.1 else bif decide ((Za s 64).1<53) then Zl.1 else bif decide ((Za s 64).1<55) then Zl.1 else bif (Za s 64).1==55 then Zl.1 else bif decide ((Za s 64).1<60) then Zl.1 else (Zaj (Za s 64).2).1,bif decide ((Za s 64).1<30) then Zl.2.1 else bif decide ((Za s 64).1<36) then Zl.2.1 else decide ((Za s 64).1<40)||bif decide ((Za s 64).1<46) then Zl.2.1 else bif decide ((Za s 64).1<50) then Zl.2.1 else bif decide ((Za s 64).1<53) then Zl.2.1 else bif decide ((Za s 64).1<55) then Zl.2.1 else bif (Za s 64).1==55 then Zl.2.1 else bif decide ((Za s 64).1<60) then Zl.2.1 else (Zaj (Zaj (Za s 64).2).2).1,bif decide ((Za s 64).1<30) then Zl.2.2.1 else bif decide ((Za s 64).1<36) then Zl.2.2.1 else bif decide ((Za s 64).1<40) then Zl.2.2.1 else bif decide ((Za s 64).1<46) then Zl.2.2.1 else bif decide ((Za s 64).1<50) then Zl.2.2.1 else bif decide ((Za s 64).1<53) then Zl.2.2.1 else bif decide ((Za s 64).1<55) then Zl.2.2.1 else (Za s 64).1==55||decide ((Za s 64).1<60)&&Zl.2.2.1,bif decide ((Za s 64).1<30) then Zl.2.2.2.1 else bif decide ((Za s 64).1<36) then Zl.2.2.2.1 else bif decide ((Za s 64).1<40) then Zl.2.2.2.1 else bif decide ((Za s 64).1<46) then Zl.2.2.2.1 else bif decide ((Za s 64).1<50) then Zl.2.2.2.1 else bif decide ((Za s 64).1<53) then (Za s 64).1==51 else bif decide ((Za s 64).1<55) then Zl.2.2.2.1 else bif (Za s 64).1==55 then Zl.2.2.2.1 else bif decide ((Za s 64).1<60) then Zl.2.2.2.1 else (Zaj (Zaj (Zaj (Za s 64).2).2).2).1,bif decide ((Za s 64).1<30) then Zl.2.2.2.2.1 else bif decide ((Za s 64).1<36) then Zl.2.2.2.2.1 else bif decide ((Za s 64).1<40) then Zl.2.2.2.2.1 else bif decide ((Za s 64).1<46) then Zl.2.2.2.2.1 else bif decide ((Za s 64).1<50) then Zl.2.2.2.2.1 else bif decide ((Za s 64).1<53) then Zl.2.2.2.2.1 else decide ((Za s 64).1<55)||bif (Za s 64).1==55 then Zl.2.2.2.2.1 else decide ((Za s 64).1<60)&&Zl.2.2.2.2.1,bif decide ((Za s 64).1<30) then Zl.2.2.2.2.2.1 else bif decide ((Za s 64).1<36) then Zl.2.2.2.2.2.1 else bif decide ((Za s 64).1<40) then Zl.2.2.2.2.2.1 else bif decide ((Za s 64).1<46) then Zl.2.2.2.2.2.1 else bif decide ((Za s 64).1<50) then Int.tmod (Za s 64).1 2==0 else bif decide ((Za s 64).1<53) then Zl.2.2.2.2.2.1 else bif decide ((Za s 64).1<55) then Zl.2.2.2.2.2.1 else bif (Za s 64).1==55 then Zl.2.2.2.2.2.1 else bif decide ((Za s 64).1<60) then Zl.2.2.2.2.2.1 else (Zaj (Zaj (Zaj (Zaj (Za s 64).2).2).2).2).1,bif decide ((Za s 64).1<30) then Zl.2.2.2.2.2.2.1 else bif decide ((Za s 64).1<36) then Zl.2.2.2.2.2.2.1 else bif decide ((Za s 64).1<40) then Zl.2.2.2.2.2.2.1 else bif decide ((Za s 64).1<46) then Zl.2.2.2.2.2.2.1 else bif decide ((Za s 64).1<50) then Int.tmod (Za s 64).1 2==1 else bif decide ((Za s 64).1<53) then Zl.2.2.2.2.2.2.1 else bif decide ((Za s 64).1<55) then Zl.2.2.2.2.2.2.1 else bif (Za s 64).1==55 then Zl.2.2.2.2.2.2.1 else bif decide ((Za s 64).1<60) then Zl.2.2.2.2.2.2.1 else (Zaj (Zaj (Zaj (Zaj (Zaj (Za s 64).2).2).2).2).2).1,bif decide ((Za s 64).1<30) then Zl.2.2.2.2.2.2.2.1 else bif decide ((Za s 64).1<36) then Zl.2.2.2.2.2.2.2.1 else bif decide ((Za s 64).1<40) then Zl.2.2.2.2.2.2.2.1 else bif decide ((Za s 64).1<46) then Zl.2.2.2.2.2.2.2.1 else bif decide ((Za s 64).1<50) then Zl.2.2.2.2.2.2.2.1 else decide ((Za s 64).1<53)||bif decide ((Za s 64).1<55) then Zl.2.2.2.2.2.2.2.1 else bif (Za s 64).1==55 then Zl.2.2.2.2.2.2.2.1 else decide ((Za s 64).1<60)&&Zl.2.2.2.2.2.2.2.1,bif decide ((Za s 64).1<30) then Zl.2.2.2.2.2.2.2.2.1 else bif decide ((Za s 64).1<36) then Zl.2.2.2.2.2.2.2.2.1 else bif decide ((Za s 64).1<40) then Zl.2.2.2.2.2.2.2.2.1 else bif decide ((Za s 64).1<46) then u8.wrap (Za (Za s 64).2 256).1 else bif decide ((Za s 64).1<50) then Zl.2.2.2.2.2.2.2.2.1 else bif decide ((Za s 64).1<53) then Zl.2.2.2.2.2.2.2.2.1 else bif decide ((Za s 64).1<55) then Zl.2.2.2.2.2.2.2.2.1 else bif (Za s 64).1==55 then Zl.2.2.2.2.2.2.2.2.1 else bif decide ((Za s 64).1<60) then 1 else u8.wrap x8.1,bif decide ((Za s 64).1<30) then u8.wrap (Za s 64).1 else bif decide ((Za s 64).1<36) then Zl.2.2.2.2.2.2.2.2.2 else bif decide ((Za s 64).1<40) then Zl.2.2.2.2.2.2.2.2.2 else bif decide ((Za s 64).1<46) then Zl.2.2.2.2.2.2.2.2.2 else bif decide ((Za s 64).1<50) then Zl.2.2.2.2.2.2.2.2.2 else bif decide ((Za s 64).1<53) then Zl.2.2.2.2.2.2.2.2.2 else bif decide ((Za s 64).1<55) then Zl.2.2.2.2.2.2.2.2.2 else bif (Za s 64).1==55 then Zl.2.2.2.2.2.2.2.2.2 else bif decide ((Za s 64).1<60) then (Zam (Za s 64).2).1 else u8.wrap x21.1),bif decide ((Za s 64).1<30) then (Za s 64).2.1 else bif decide ((Za s 64).1<36) then (Za s 64).2.1 else bif decide ((Za s 64).1<40) then (Za s 64).2.1 else bif decide ((Za s 64).1<46) then (Za (Za s 64).2 256).2.1 else bif decide ((Za s 64).1<50) then (Za s 64).2.1 else bif decide ((Za s 64).1<53) then (Za s 64).2.1 else bif decide ((Za s 64).1<55) then (Za s 64).2.1 else bif (Za s 64).1==55 then (Za s 64).2.1 else bif decide ((Za s 64).1<60) then (Zam (Za s 64).2).2.1 else x22.1,bif decide ((Za s 64).1<30) then (Za s 64).2.2 else bif decide ((Za s 64).1<36) then (Za s 64).2.2 else bif decide ((Za s 64).1<40) then (Za s 64).2.2 else bif decide ((Za s 64).1<46) then (Za (Za s 64).2 256).2.2 else bif decide ((Za s 64).1<50) then (Za s 64).2.2 else bif decide ((Za s 64).1<53) then (Za s 64).2.2 else bif decide ((Za s 64).1<55) then (Za s 64).2.2 else bif (Za s 64).1==55 then (Za s 64).2.2 else bif decide ((Za s 64).1<60) then (Zam (Za s 64).2).2.2 else x22.2))) Ln) Ln) Ln) Ln) Ln) Ln) Ln) Ln) Ln) Ln
def ZdK (s:List Int×Int):INPT×List Int×Int:=getO (ZI5.Df,ZCf.Df) (Zo1 s).val
def Ziu (s:List Int×Int):Bool:=okB (Zo1 s).val
def Zo2:En:=boxE ZCf Zxj ZI5 (λa=>some (Ziu a.1)) (λa=>ZdK a.1)
theorem Zo0:Zb prog 62 Zo2:=
 ZcF (P:=prog) (n:=5036105318265824215071) (k:=8) (l:=[(68,ZcQ),(69,ZTH),(118,ZDb),(119,ZhF)]) (ol:=[]) ⟨Zbf,ZRK,ZrQ,Zfq,Tv⟩ Tryz.func62 rfl (by kernel_rfl) Tryz.call62 trivial (rb:=ZCf) (ts:=Zxj) (rs:=ZI5) (t:=λa=>Zo1 a.1) (λa=>by kernel_rfl)
abbrev ZoY:Rs:=Rs.one (So (R.sl ZeM))
def ZIj:LS:={n:=39,Sl:=[(0,.fix (A.loc 0 0)),(5,.tip 0),(6,.code (So Kc)),(7,.fix (A.loc 1 0)),(8,.code (So Kc))],Bx:=[[.many (R.Pq (R.sl Kc) Kc)],[.many ZeM]],Sg:=[⟨ZeM,122,true⟩]}
def Zd5 (a:QT20):RT (Option (Go1 (QT20))):=
 let x1:List INPT:=a.2.2.2.2.1++[a.2.2.2.1]
 .br (decide (a.2.1>=0)&&decide (iN (Le a.2.2.2.2.1)<a.1)) (.br (Nat.ble (Le x1) most) (Ls (Go1.cont (a.1,i64.wrap (a.2.1-1),a.2.2.1,a.2.2.2.1,x1,PUnit.unit))) Ln) (Ls (Go1.brk (a.1,a.2.1,a.2.2.1,a.2.2.2.1,a.2.2.2.2.1,PUnit.unit)))
def ZhG:Ora:=Zbi false ZIj Zd5 (λa=>400)
theorem Zlm:ZaM (envX prog [(62,Zo2),(68,ZcQ)] [] 511 8) (.block 2 (.loop (Z5 Tryz.f125.body 2))) ZhG:=
 loopP ⟨Zo0,Zbf,Tv⟩
def ZIi:LS:={n:=39,Sl:=[(0,.fix (A.loc 0 0)),(5,.tip 0),(6,.code (So Kc))],Bx:=[[.many (R.Pq (R.sl Kc) Kc)]],Sg:=[⟨ZeM,122,true⟩]}
def Zfr (a:QT29):RT (Option (Go1 (QT29))):=
 let x1:= !Zo (ZdK a.2.1).2 4||Zo (Za (ZdK a.2.1).2 4).2 5
 let x2:= !x1
 let x3:QT20:=(a.1,i64.wrap ((Za (ZdK a.2.1).2 4).1*(Za (Za (ZdK a.2.1).2 4).2 5).1),(Za (Za (ZdK a.2.1).2 4).2 5).2,(ZdK a.2.1).1,a.2.2.1,())
 let x4:=runF false Zd5 (λa_1=>400) x3
 let x5:QT20:=(getO (false,x3) x4).2
 let x6:=x5.2.2
 .br (decide (iN (Le a.2.2.1)<a.1)) (.br (!Ziu a.2.1||(x2||(!Zo (ZdK a.2.1).2 4||okB x4))) (.br (!Ziu a.2.1||(x2||Zo (ZdK a.2.1).2 4)) (.br (!Ziu a.2.1||x1) (.br (Ziu a.2.1) (Ls (Go1.cont (x5.1,x6.1,x6.2.2.1,PUnit.unit))) Ln) Ln) Ln) Ln) (Ls (Go1.brk (a.1,a.2.1,a.2.2.1,PUnit.unit)))
def Zrn:Ora:=Zbi false ZIi Zfr (λa=>400)
theorem Zyf:ZaM (envX prog [(62,Zo2),(68,ZcQ)] [(2,ZhG)] 511 8) (.block 0 (.loop (Z5 Tryz.f125.body 0))) Zrn:=
 ZjJ (ZbU (l:=[(62,Zo2),(68,ZcQ)]) ⟨Zo0,Zbf,Tv⟩ [(2,ZhG)] 511 8) (Ziw (by kernel_rfl) (by kernel_rfl) ⟨Zlm,Tv⟩) (λa=>by kernel_rfl)
def ZjA (s:List Int×Int) (n:Int):RT (Option (List INPT×List Int×Int)):=
 let x1:QT29:=((Za s (i64.wrap (n+1))).1,(Za s (i64.wrap (n+1))).2,[],())
 let x2:=runF false Zfr (λa=>400) x1
 let x3:(List Int×Int)×List INPT×PUnit:=(getO (false,x1) x2).2.2
 .br (Zo s (i64.wrap (n+1))) (.br (okB x2) (Ls ((x3.2.1,x3.1))) Ln) Ln
def Zaf (s:List Int×Int) (n:Int):List INPT×List Int×Int:=getO (ZoY.Df,ZCf.Df) (ZjA s n).val
def ZjB (s:List Int×Int) (n:Int):Bool:=okB (ZjA s n).val
def ZFr:En:=boxE ZCf ZxE ZoY (λa=>some (ZjB a.1 a.2)) (λa=>Zaf a.1 a.2)
theorem ZIg:Zb prog 125 ZFr:=
 ZcF (P:=prog) (n:=511) (k:=8) (l:=[(62,Zo2),(68,ZcQ)]) (ol:=[(2,ZhG),(0,Zrn)]) ⟨Zo0,Zbf,Tv⟩ Tryz.func125 rfl (by kernel_rfl) Tryz.call125 ⟨Zlm,Zyf,Tv⟩ (rb:=ZCf) (ts:=ZxE) (rs:=ZoY) (t:=λa=>ZjA a.1 a.2) (λa=>by kernel_rfl)
variable {s:List Int×Int} {k:Int}
theorem NB.up {j:Int} (h:NB s k) (hj:k<=j):NB s j:=⟨h.1,by have:=h.2;omega⟩
theorem ZjC (h:NB s k) (hk:k<=1000000):Zbw s=true/\NB (Zaj s).2 (k+1):=by obtain⟨c1,b,_⟩:=Zt h hk 2 (by decide) (by decide);simp only[Zbw,Zaj,ZFt,RT.val,c1,Ya,okB,getO];exact⟨trivial,b⟩
theorem ZbQ {a b:Nat} (h:a<=b):Nat.ble a b=true:=by rw[YD];exact h
theorem ZCa (h:NB s k) (hk:k<=500000) (n:Nat) (hn:n<=100):
  Zb9 s (n:Int)=true/\NB (ZU s (n:Int)).2 (k+1+5*n)/\(ZU s (n:Int)).1.length<=n:=by
 have hms:=mst;have w0:IntKind.wrap .i64 ((n:Int)+1)=(n:Int)+1:=wrap_i64 _ (by omega) (by omega);obtain⟨c1,b1,d0,d1⟩:=Zt h (by omega) ((n:Int)+1) (by omega) (by omega);obtain⟨L,N,hs1⟩:∃L N,(L,N)=(Za s ((n:Int)+1)).2:=⟨_,_,rfl⟩;obtain⟨q,hq⟩:∃q:Nat,(Za s ((n:Int)+1)).1=(q:Int):=⟨_,(Yaq d0).symm⟩;rw[<-hs1] at b1;obtain⟨r,hr,h1,L',N',o,hs',ho,hR⟩:=ZN (fl:=false) (t:=Zb8) (fuel:=λa=>400)
  (λa=>∃(i:Nat) (L:List Int) (N:Int) (o:List ZO),i<=q/\NB (L,N) (k+1+5*((q-i:Nat):Int))/\o.length<=q-i/\a=((i:Int),(L,N),o,()))
  (λa=>Int.toNat a.1) (λr=>r.1=false/\∃(L:List Int) (N:Int) (o:List ZO),NB (L,N) (k+1+5*(q:Int))/\o.length<=q/\r.2=((0:Int),(L,N),o,()))
  (by
   rintro a ⟨i,L,N,o,hi,hs',ho,rfl⟩;cases i with
   |zero=>
    right;left;exact⟨_,by simp only[Zb8,RT.val];rfl,rfl,L,N,o,by simpa using hs',by omega,rfl⟩
   |succ i=>
    left;have d:decide (((i+1:Nat):Int)>0)=true:=Yr (by omega);obtain⟨kw,bw,_⟩:=ZFp hs' (by omega);obtain⟨k1,b1,e0,e1⟩:=Zt bw (by omega) 6 (by decide) (by decide);obtain⟨k2,b2,_⟩:=Zt b1 (by omega) 3 (by decide) (by decide);obtain⟨k3,b3,f0,f1⟩:=Zt b2 (by omega) 5 (by decide) (by decide);have r1:Zg (Za (ZaQ (L,N)).2 6).1 6=true:=ZS.2 ⟨e0,e1⟩;have r2:Zg (Za (Za (Za (ZaQ (L,N)).2 6).2 3).2 5).1 5=true:=ZS.2 ⟨f0,f1⟩;have hb:∀x:ZO,Nat.ble (o++[x]).length most=true:=λx=>ZbQ (by simp;omega)
    have w:IntKind.wrap .i64 (((i+1:Nat):Int)-1)=(i:Int):=by rw[wrap_i64 _ (by omega) (by omega)];omega
    obtain⟨o',ho'⟩:∃o':List ZO,o'=o++[((ZaQ (L,N)).1,u16.wrap (if 65535<i64.wrap (i64.wrap (ZaQ (L,N)).1+R.get (R.int i64) [0,3,15,255,4095,65535] (Za (ZaQ (L,N)).2 6).1) then 65535 else i64.wrap (i64.wrap (ZaQ (L,N)).1+R.get (R.int i64) [0,3,15,255,4095,65535] (Za (ZaQ (L,N)).2 6).1)),decide ((Za (Za (ZaQ (L,N)).2 6).2 3).1>0),R.get (R.int i64) [0,0,1,2,5] (Za (Za (Za (ZaQ (L,N)).2 6).2 3).2 5).1)]:=⟨_,rfl⟩;refine⟨((i:Int),((Za (Za (Za (ZaQ (L,N)).2 6).2 3).2 5).2.1,(Za (Za (Za (ZaQ (L,N)).2 6).2 3).2 5).2.2),o',()),?_,⟨i,_,_,o',by omega,b3.up (by omega),by rw[ho'];simp;omega,rfl⟩,by simp only;omega⟩
    simp only[Zb8,RT.val,List.length_cons,List.length_nil,Nat.reduceAdd,d,kw,k1,k2,k3,r1,r2,hb,w,ho',Ya,Yf,Yh,Yk,Yz])
  ((q:Int),(L,N),[],()) ⟨q,L,N,[],Ye _,by simpa using b1,by simp,rfl⟩ (by simp only;omega)
 obtain⟨r1,r2⟩:=r;simp only at h1 hR;subst h1 hR;have hv:(Zes s (n:Int)).val=some (o,L',N'):=by simp only[Zes,RT.val,w0,c1,hq,<-hs1,hr,okB,getO,Ya]
 simp only[Zb9,ZU,hv,okB,getO];exact⟨trivial,hs'.up (by omega),by omega⟩
variable {l:List Cell}
theorem ZXu (h:l.length<=1000):smC l=true:=ZbQ (by have:=mst;omega)
theorem ZS3 {l:List Int} (h:l.length<=1000):smB l=true:=ZbQ (by have:=mst;omega)
theorem ZCg (h:NB s k) (hk:k<=400000):ZIf s=true/\NB (nMap s).2 (k+20)/\(nMap s).1.length<=3:=by
 obtain⟨c1,b1,l1⟩:=ZCa h (by omega) 2 (by omega);have c1:Zb9 s 2=true:=c1;have b1:NB (ZU s 2).2 (k+1+5*((2:Nat):Int)):=b1;have l1:(ZU s 2).1.length<=2:=l1;obtain⟨c2,b2,_⟩:=Zt b1 (by omega) 3 (by decide) (by decide);have hs:∀x:ZO,Nat.ble ((ZU s 2).1++[x]).length most=true:=λx=>ZbQ (by have:=mst;simp;omega)
 have hg:∀l:List ZO,Stg.l (newG Zd3 Zd4 l)=l:=λ_=>rfl
 have hv:(ZCh s).val=some ((ZU s 2).1++[(0,65535,true,IntKind.wrap .i64 (Int.tdiv (Za (ZU s 2).2 3).1 2))],(Za (ZU s 2).2 3).2):=by simp only[ZCh,RT.val,hg,c1,c2,hs,Yf,Yh,Yk,Ya]
 refine⟨by simp only[ZIf,hv];rfl,?_,?_⟩
 ·simp only[nMap,hv,getO];exact b2.up (by omega)
 ·simp only[nMap,hv,getO];simp;omega
theorem ZCc (h:NB s k) (hk:k<=300000) (n:Nat) (hn:n<=20):
  Zg2 s (n:Int)=true/\NB (Zcl s (n:Int)).2 (k+1+10*n)/\(Zcl s (n:Int)).1.length<=12*n:=by
 have hms:=mst;have w0:IntKind.wrap .i64 ((n:Int)+1)=(n:Int)+1:=wrap_i64 _ (by omega) (by omega);obtain⟨c1,b1,d0,d1⟩:=Zt h (by omega) ((n:Int)+1) (by omega) (by omega);obtain⟨s1,hs1⟩:∃s1,s1=(Za s ((n:Int)+1)).2:=⟨_,rfl⟩;obtain⟨q,hq⟩:∃q:Nat,(Za s ((n:Int)+1)).1=(q:Int):=⟨_,(Yaq d0).symm⟩;rw[<-hs1] at b1;obtain⟨r,hr,h1,s',o,hs',ho,hR⟩:=ZN (fl:=false) (t:=Zdd) (fuel:=λa=>400)
  (λa=>∃(i:Nat) (s':List Int×Int) (o:List Int),i<=q/\NB s' (k+1+10*((q-i:Nat):Int))/\o.length<=12*(q-i)/\a=((i:Int),s',o,()))
  (λa=>Int.toNat a.1) (λr=>r.1=false/\∃(s':List Int×Int) (o:List Int),NB s' (k+1+10*(q:Int))/\o.length<=12*q/\r.2=((0:Int),s',o,()))
  (by
   rintro a ⟨i,s',o,hi,hs',ho,rfl⟩;cases i with
   |zero=>
    right;left;exact⟨_,by simp only[Zdd,RT.val];rfl,rfl,s',o,by simpa using hs',by omega,rfl⟩
   |succ i=>
    left;have d:decide (((i+1:Nat):Int)>0)=true:=Yr (by omega);have w:IntKind.wrap .i64 (((i+1:Nat):Int)-1)=(i:Int):=by rw[wrap_i64 _ (by omega) (by omega)];omega
    obtain⟨k0,b0,_⟩:=Zt hs' (by omega) 8 (by decide) (by decide);obtain⟨k1,b1,e0,e1⟩:=Zt b0 (by omega) 4 (by decide) (by decide);obtain⟨k2,b2,_⟩:=Zt b1 (by omega) 256 (by decide) (by decide);obtain⟨k3,b3,f0,f1⟩:=Zt b2 (by omega) 4 (by decide) (by decide);obtain⟨k4,b4,_⟩:=Zmd b0 (by omega);obtain⟨k5,b5,_⟩:=Zt b4 (by omega) 8 (by decide) (by decide);obtain⟨k6,b6,_⟩:=Zt b0 (by omega) 16 (by decide) (by decide);obtain⟨k7,b7,_⟩:=Zmd b6 (by omega);obtain⟨k8,b8,_⟩:=ZkK b0 (by omega);obtain⟨k9,b9,_⟩:=Zt b8 (by omega) 64 (by decide) (by decide);obtain⟨ka,ba,g0,g1⟩:=Zt b9 (by omega) 4 (by decide) (by decide);have r1:Zg (Za (Za s' 8).2 4).1 4=true:=ZS.2 ⟨e0,e1⟩;have r2:Zg (Za (Za (Za (Za s' 8).2 4).2 256).2 4).1 4=true:=ZS.2 ⟨f0,f1⟩;have r3:Zg (Za (Za (Zam (Za s' 8).2).2 64).2 4).1 4=true:=ZS.2 ⟨g0,g1⟩;have hb:∀x:List Int,x.length<=12->Nat.ble (o++x).length most=true:=λx hx=>ZbQ (by rw[Yd];omega)
    have q1:∀a b c:Int,Nat.ble (o++[a,b,c]).length most=true:=λa b c=>hb _ (by simp)
    have q2:∀a b c d:Int,Nat.ble (o++[a,b,c,d]).length most=true:=λa b c d=>hb _ (by simp)
    have q3:∀a:Int,Nat.ble (o++[a]).length most=true:=λa=>hb _ (by simp)
    have q4:∀a b c d e f g h i j k l:Int,Nat.ble (o++[a,b,c,d,e,f,g,h,i,j,k,l]).length most=true:=λa b c d e f g h i j k l=>hb _ (by simp)
    have hv:∃s2 x,x.length<=12/\NB s2 (k+1+10*((q-i:Nat):Int))/\(Zdd (((i+1:Nat):Int),s',o,())).val=some (Go1.cont ((i:Int),s2,o++x,())):=by
     simp only[Zdd,RT.val,List.length_cons,List.length_nil,Nat.reduceAdd,d,w,k0,k1,k2,k3,k4,k5,k6,k7,k8,k9,ka,r1,r2,r3,q1,q2,q3,q4,Ya,Yf,Yh,Yk,Yz];cases (Za s' 8).1==0
     ·cases (Za s' 8).1==1
      ·cases (Za s' 8).1==2
       ·cases (Za s' 8).1==3
        ·exact⟨_,[(Zam (Za s' 8).2).1,IntKind.wrap .u8 (Za (Zam (Za s' 8).2).2 64).1,R.get (R.int .u8) [0,0,1,255] (Za (Za (Zam (Za s' 8).2).2 64).2 4).1],by simp,ba.up (by omega),rfl⟩
        ·exact⟨_,[62,IntKind.wrap .u8 (IntKind.wrap .i64 (16+(Za (Za s' 8).2 16).1)),211,0,62,(Zc2 (Za (Za s' 8).2 16).2).1,211,1,62,0,211,1],by simp,b7.up (by omega),rfl⟩
       ·exact⟨_,[251],by simp,b0.up (by omega),rfl⟩
      ·exact⟨_,[62,(Zc2 (Za s' 8).2).1,211,IntKind.wrap .u8 (Za (Zc2 (Za s' 8).2).2 8).1],by simp,b5.up (by omega),rfl⟩
     ·exact⟨_,[R.get (R.int .u8) [33,49,1,17] (Za (Za s' 8).2 4).1,IntKind.wrap .u8 (Za (Za (Za s' 8).2 4).2 256).1,R.get (R.int .u8) [0,0,1,255] (Za (Za (Za (Za s' 8).2 4).2 256).2 4).1],by simp,b3.up (by omega),rfl⟩
    obtain⟨s2,x,hx,hs2,hv⟩:=hv
    exact⟨_,hv,⟨i,s2,o++x,by omega,hs2,by rw[Yd];omega,rfl⟩,by simp only;omega⟩)
  ((q:Int),s1,[],()) ⟨q,s1,[],Ye _,by simpa using b1,by simp,rfl⟩ (by simp only;omega)
 obtain⟨r1,r2⟩:=r;simp only at h1 hR;subst h1 hR;have hv:(Zg1 s (n:Int)).val=some (o,s'):=by simp only[Zg1,RT.val,w0,c1,hq,<-hs1,hr,okB,getO,Ya]
 simp only[Zg2,Zcl,hv,okB,getO];exact⟨trivial,hs'.up (by omega),by omega⟩
theorem Zpi (t:Int) (b:List Int):(Zfu t b).length<=b.length:=by have:=Zeq (Zix t b b.length);rw[ZjK] at this;exact this
theorem ZNL (h:NB s k) (hk:k<=300000):Ziu s=true/\NB (ZdK s).2 (k+20):=by
 obtain⟨c1,b1,_⟩:=Zt h (by omega) 64 (by decide) (by decide);obtain⟨c2,b2,_⟩:=Zt b1 (by omega) 256 (by decide) (by decide);obtain⟨c3,b3,_⟩:=ZkK b1 (by omega);obtain⟨f1,g1⟩:=ZjC b1 (by omega);obtain⟨f2,g2⟩:=ZjC g1 (by omega);obtain⟨f3,g3⟩:=ZjC g2 (by omega);obtain⟨f4,g4⟩:=ZjC g3 (by omega);obtain⟨f5,g5⟩:=ZjC g4 (by omega);obtain⟨c4,b4,_⟩:=Zt g5 (by omega) 256 (by decide) (by decide);obtain⟨c5,b5,_⟩:=Zt b4 (by omega) 256 (by decide) (by decide);have hv:∃c s',(Zo1 s).val=some (c,s')/\NB s' (k+20):=by
  simp only[Zo1,RT.val,c1,c2,c3,c4,c5,f1,f2,f3,f4,f5,Ya,Yf,Yh,Yk,Yz];cases decide ((Za s 64).1<30) with
  |true=>exact⟨_,_,rfl,b1.up (by omega)⟩
  |false=>
  cases decide ((Za s 64).1<36) with
  |true=>exact⟨_,_,rfl,b1.up (by omega)⟩
  |false=>
  cases decide ((Za s 64).1<40) with
  |true=>exact⟨_,_,rfl,b1.up (by omega)⟩
  |false=>
  cases decide ((Za s 64).1<46) with
  |true=>exact⟨_,_,rfl,b2.up (by omega)⟩
  |false=>
  cases decide ((Za s 64).1<50) with
  |true=>exact⟨_,_,rfl,b1.up (by omega)⟩
  |false=>
  cases decide ((Za s 64).1<53) with
  |true=>exact⟨_,_,rfl,b1.up (by omega)⟩
  |false=>
  cases decide ((Za s 64).1<55) with
  |true=>exact⟨_,_,rfl,b1.up (by omega)⟩
  |false=>
  cases ((Za s 64).1==55) with
  |true=>exact⟨_,_,rfl,b1.up (by omega)⟩
  |false=>
  cases decide ((Za s 64).1<60) with
  |true=>exact⟨_,_,rfl,b3.up (by omega)⟩
  |false=>exact⟨_,_,rfl,b5.up (by omega)⟩
 obtain⟨c,s',hv,h1⟩:=hv;simp only[Ziu,ZdK,hv,okB,getO];exact⟨trivial,h1⟩
theorem ZWz (s:List Int×Int) (z:Int) (c:INPT) (kk:Nat) (hk:kk<300) (o:List INPT) (size:Nat) (ho:o.length<=size) (hz:size<=300):
  ∃k2 o2,runF false Zd5 (λ_=>400) ((size:Int),(kk:Int),s,c,o,())=some (false,(size:Int),k2,s,c,o2,())/\o2.length<=size/\o.length<=o2.length/\(o.length<size->o.length<o2.length):=by
 have hms:=mst;obtain⟨r,hr,h1,k2,o2,e1,e2,e3,e4⟩:=ZN (fl:=false) (t:=Zd5) (fuel:=λ_=>400)
  (λa=>∃(j:Nat) (o2:List INPT),j<=kk+1/\o2.length<=size/\o.length<=o2.length/\(j=kk+1\/o.length<o2.length)/\a=((size:Int),(j:Int)-1,s,c,o2,()))
  (λa=>Int.toNat (a.2.1+1)) (λr=>r.1=false/\∃k2 o2,r.2=((size:Int),k2,s,c,o2,())/\o2.length<=size/\o.length<=o2.length/\(o.length<size->o.length<o2.length))
  (by
   rintro a ⟨j,o2,hj,h2,h3,h4,rfl⟩;have w:∀j:Nat,j<=1000->IntKind.wrap .i64 (((j:Nat):Int)-1-1)=(j:Int)-1-1:=λj hj=>wrap_i64 _ (by omega) (by omega)
   by_cases hc:1<=j/\o2.length<size
   ·left;have d1:decide (((j:Nat):Int)-1>=0)=true:=Yr (by omega);have d2:decide (iN o2.length<(size:Int))=true:=Yr (by simp only[iN,Le];omega);have hb:Nat.ble (o2++[c]).length most=true:=ZbQ (by simp;omega);refine⟨((size:Int),(j:Int)-1-1,s,c,o2++[c],()),?_,⟨j-1,o2++[c],by omega,by simp;omega,by simp;omega,by right;simp;omega,?_⟩,by simp only;omega⟩
    ·simp only[Zd5,RT.val,d1,d2,hb,YZ,Ya,w j (by omega)]
    ·have:((j:Nat):Int)-1=((j-1:Nat):Int):=by omega
     rw[this]
   ·right;left;have d:(decide (((j:Nat):Int)-1>=0)&&decide (iN o2.length<(size:Int)))=false:=by simp only[iN,Le,Yat,Yah];omega
    exact⟨((size:Int),(j:Int)-1,s,c,o2,()),by simp only[Zd5,RT.val,d,Yb],rfl,_,o2,rfl,h2,h3,λh=>by
     rcases h4 with h4|h4
     ·omega
     ·exact h4⟩)
  ((size:Int),(kk:Int),s,c,o,()) ⟨kk+1,o,Ye _,ho,Ye _,.inl rfl,by
   have:(kk:Int)=((kk+1:Nat):Int)-1:=by omega
   rw[<-this]⟩ (by simp only;omega)
 obtain⟨r1,r2⟩:=r;simp only at h1 e1;subst h1 e1;exact⟨k2,o2,hr,e2,e3,e4⟩
theorem ZIh (h:NB s k) (hk:k<=100000) (n:Nat) (hn:n<=250):
  ZjB s (n:Int)=true/\NB (Zaf s (n:Int)).2 (k+1+30*n)/\(Zaf s (n:Int)).1.length<=n:=by
 have hms:=mst;have w0:IntKind.wrap .i64 ((n:Int)+1)=(n:Int)+1:=wrap_i64 _ (by omega) (by omega);obtain⟨c1,b1,d0,d1⟩:=Zt h (by omega) ((n:Int)+1) (by omega) (by omega);obtain⟨s1,hs1⟩:∃s1,s1=(Za s ((n:Int)+1)).2:=⟨_,rfl⟩;obtain⟨q,hq⟩:∃q:Nat,(Za s ((n:Int)+1)).1=(q:Int):=⟨_,(Yaq d0).symm⟩;rw[<-hs1] at b1;obtain⟨r,hr,h1,s',o,hs',ho,hR⟩:=ZN (fl:=false) (t:=Zfr) (fuel:=λa=>400)
  (λa=>∃(s':List Int×Int) (o:List INPT),NB s' (k+1+30*(o.length:Int))/\o.length<=q/\a=((q:Int),s',o,()))
  (λa=>Int.toNat a.1-a.2.2.1.length) (λr=>r.1=false/\∃(s':List Int×Int) (o:List INPT),NB s' (k+1+30*(q:Int))/\o.length<=q/\r.2=((q:Int),s',o,()))
  (by
   rintro a ⟨s',o,hs',ho,rfl⟩;by_cases hc:o.length<q
   ·left;have d:decide (iN o.length<(q:Int))=true:=Yr (by simp only[iN,Le];omega);obtain⟨i1,g1⟩:=ZNL hs' (by omega);obtain⟨i2,g2,m0,m1⟩:=Zt g1 (by omega) 4 (by decide) (by decide);obtain⟨i3,g3,m2,m3⟩:=Zt g2 (by omega) 5 (by decide) (by decide);obtain⟨x,hx⟩:∃x:Nat,(Za (ZdK s').2 4).1=(x:Int):=⟨_,(Yaq m0).symm⟩;obtain⟨y,hy⟩:∃y:Nat,(Za (Za (ZdK s').2 4).2 5).1=(y:Int):=⟨_,(Yaq m2).symm⟩;have hxy:x*y<=3*4:=Nat.mul_le_mul (by omega) (by omega);have w:IntKind.wrap .i64 ((x:Int)*(y:Int))=((x*y:Nat):Int):=by rw[show (x:Int)*(y:Int)=((x*y:Nat):Int) by simp,wrap_i64 _ (by omega) (by omega)]
    obtain⟨k2,o2,hr,e2,e3,e4⟩:=ZWz (Za (Za (ZdK s').2 4).2 5).2 0 (ZdK s').1 (x*y) (by omega) o q ho (by omega);have e5:=e4 hc;refine⟨((q:Int),(Za (Za (ZdK s').2 4).2 5).2,o2,()),?_,⟨_,o2,g3.up (by omega),e2,rfl⟩,by simp only;omega⟩;simp only[Zfr,RT.val,d,i1,i2,i3,hx,hy,w,hr,okB,getO,Ya,Yf,Yh,Yk,Yz]
   ·right;left;have d:decide (iN o.length<(q:Int))=false:=YG (by simp only[iN,Le];omega)
    exact⟨_,by simp only[Zfr,RT.val,d,Yb],rfl,s',o,hs'.up (by omega),ho,rfl⟩)
  ((q:Int),s1,[],()) ⟨s1,[],by simpa using b1,by simp,rfl⟩ (by simp only[List.length_nil];omega)
 obtain⟨r1,r2⟩:=r;simp only at h1 hR;subst h1 hR;have hv:(ZjA s (n:Int)).val=some (o,s'):=by simp only[ZjA,RT.val,w0,c1,hq,<-hs1,hr,okB,getO,Ya]
 simp only[ZjB,Zaf,hv,okB,getO];exact⟨trivial,hs'.up (by omega),by omega⟩
theorem Zg4 (h:NB s k) (hk:k<=10000):
  Zo6 s=true/\NB (ZbX s).2 (k+300)/\(∃s1,NB s1 (k+1)/\(ZbX s).1.2.1=(nMap s1).1)/\((ZbX s).1.1=1\/(ZbX s).1.1=2)/\
   (0<=(ZbX s).1.2.2.1/\(ZbX s).1.2.2.1<=2)/\∃l:List Cell,l.length<=200/\(ZbX s).1.2.2.2.2.2.2=normX l:=by
 have hms:=mst;obtain⟨c0,b0,hch⟩:=ZRL h (by omega);obtain⟨c1,b1,l1⟩:=ZCg b0 (by omega);obtain⟨c2,b2,w0,w1⟩:=Zt b1 (by omega) 3 (by decide) (by decide);obtain⟨c3,b3,_⟩:=Zt b2 (by omega) 4 (by decide) (by decide);obtain⟨c4,b4,_⟩:=Zt b3 (by omega) 6 (by decide) (by decide);obtain⟨c5,b5,_⟩:=Zmd b4 (by omega);obtain⟨c6,b6,_⟩:=Zmd b5 (by omega)
 obtain⟨s2,hs2,b7⟩:∃s2,s2=((bif (Za (Za (Za (nMap (ZaZ s).2).2 3).2 4).2 6).1==0 then (Zc2 (Zc2 (Za (Za (Za (nMap (ZaZ s).2).2 3).2 4).2 6).2).2).2.1 else (Za (Za (Za (nMap (ZaZ s).2).2 3).2 4).2 6).2.1,
   bif (Za (Za (Za (nMap (ZaZ s).2).2 3).2 4).2 6).1==0 then (Zc2 (Zc2 (Za (Za (Za (nMap (ZaZ s).2).2 3).2 4).2 6).2).2).2.2 else (Za (Za (Za (nMap (ZaZ s).2).2 3).2 4).2 6).2.2):List Int×Int)/\NB s2 (k+30):=by
  refine⟨_,rfl,?_⟩;cases (Za (Za (Za (nMap (ZaZ s).2).2 3).2 4).2 6).1==0
  ·exact b4.up (by omega)
  ·exact b6.up (by omega)
 obtain⟨c8,b8,l8⟩:=ZCc b7 (by omega) 12 (by omega);have c8:Zg2 s2 12=true:=c8;have b8:NB (Zcl s2 12).2 (k+30+1+10*((12:Nat):Int)):=b8;have l8:(Zcl s2 12).1.length<=12*12:=l8;obtain⟨c9,b9,d0,d1⟩:=Zt b8 (by omega) 4 (by decide) (by decide);have hl:=Zpi 0 (Zcl s2 12).1;obtain⟨q,hq⟩:∃q:Nat,(Za (Zcl s2 12).2 4).1=(q:Int):=⟨_,(Yaq d0).symm⟩;have hg:∀l:List Cell,Stg.l (newG ZcO Zr3 l)=l:=λ_=>rfl
 have key:∀x y z:BRDT,∀o:List Cell,o.length<=144->∃s' o',NB s' (k+200)/\o'.length<=200/\
   runF false Zfs (λ_=>400) ((q:Int),(Za (Zcl s2 12).2 4).2,x,y,o,())=some (false,0,s',x,y,o',()):=by
  intro x y z o ho;obtain⟨r,hr,h1,s',o',g1,g2,g3⟩:=ZN (fl:=false) (t:=Zfs) (fuel:=λ_=>400)
   (λa=>∃(i:Nat) (s':List Int×Int) (o:List Cell),i<=q/\NB s' (k+30+1+10*((12:Nat):Int)+1+4*((q-i:Nat):Int))/\o.length<=144+3*(q-i)/\a=((i:Int),s',x,y,o,()))
   (λa=>Int.toNat a.1) (λr=>r.1=false/\∃s' o',NB s' (k+200)/\o'.length<=200/\r.2=(0,s',x,y,o',()))
   (by
    rintro a ⟨i,s',o,hi,hs',ho,rfl⟩;cases i with
    |zero=>
     right;left;exact⟨_,by simp only[Zfs,RT.val];rfl,rfl,s',o,hs'.up (by omega),by omega,rfl⟩
    |succ i=>
     left;have d:decide (((i+1:Nat):Int)>0)=true:=Yr (by omega);have w:IntKind.wrap .i64 (((i+1:Nat):Int)-1)=(i:Int):=by rw[wrap_i64 _ (by omega) (by omega)];omega
     obtain⟨k0,b0,e0,e1⟩:=Zt hs' (by omega) 6 (by decide) (by decide);obtain⟨k1,b1,_⟩:=ZkK b0 (by omega);have r1:Zg (Za s' 6).1 6=true:=ZS.2 ⟨e0,e1⟩;have hsb:∀a b c:Int,smB [a,b,c]=true:=λa b c=>ZS3 (by simp)
     have hll:=Zpi (IntKind.wrap .u16 (R.get (R.int .i64) [36,60,52,44,56,32] (Za s' 6).1)) [(Zam (Za s' 6).2).1,251,201];simp only[List.length_cons,List.length_nil] at hll;have hb:Nat.ble (o++Zfu (IntKind.wrap .u16 (R.get (R.int .i64) [36,60,52,44,56,32] (Za s' 6).1)) [(Zam (Za s' 6).2).1,251,201]).length most=true:=ZbQ (by rw[Yd];omega);refine⟨((i:Int),(Zam (Za s' 6).2).2,x,y,o++Zfu (IntKind.wrap .u16 (R.get (R.int .i64) [36,60,52,44,56,32] (Za s' 6).1)) [(Zam (Za s' 6).2).1,251,201],()),?_,⟨i,_,_,by omega,b1.up (by omega),by rw[Yd];omega,rfl⟩,by simp only;omega⟩
     simp only[Zfs,RT.val,hg,List.length_cons,List.length_nil,Nat.reduceAdd,d,w,k0,k1,r1,hsb,hb,Ya,Yf,Yh,Yk,Yz])
   ((q:Int),(Za (Zcl s2 12).2 4).2,x,y,o,()) ⟨q,_,o,Ye _,b9.up (by omega),by omega,rfl⟩ (by simp only;omega)
  obtain⟨r1,r2⟩:=r;simp only at h1 g3;subst h1 g3;exact⟨s',o',g1,g2,hr⟩
 obtain⟨s',o',g1,g2,hr⟩:=key (0,[],0,0,0,false,[]) ((ZaZ s).1,(nMap (ZaZ s).2).1,(Za (nMap (ZaZ s).2).2 3).1,bif (Za (Za (Za (nMap (ZaZ s).2).2 3).2 4).2 6).1==0 then (Zc2 (Za (Za (Za (nMap (ZaZ s).2).2 3).2 4).2 6).2).1 else 0,
  bif (Za (Za (Za (nMap (ZaZ s).2).2 3).2 4).2 6).1==0 then (Zc2 (Zc2 (Za (Za (Za (nMap (ZaZ s).2).2 3).2 4).2 6).2).2).1 else 4,(Za (Za (nMap (ZaZ s).2).2 3).2 4).1==0,[]) (0,[],0,0,0,false,[]) (Zfu 0 (Zcl s2 12).1) (by omega)
 have hsc:smC o'=true:=ZXu (by omega);have hsb:smB (Zcl s2 12).1=true:=ZS3 (by omega);have hv:∃p d,(Zo5 s).val=some (((ZaZ s).1,(nMap (ZaZ s).2).1,(Za (nMap (ZaZ s).2).2 3).1,p,d,(Za (Za (nMap (ZaZ s).2).2 3).2 4).1==0,normX o'),s'):=by
  refine⟨bif (Za (Za (Za (nMap (ZaZ s).2).2 3).2 4).2 6).1==0 then (Zc2 (Za (Za (Za (nMap (ZaZ s).2).2 3).2 4).2 6).2).1 else 0,
   bif (Za (Za (Za (nMap (ZaZ s).2).2 3).2 4).2 6).1==0 then (Zc2 (Zc2 (Za (Za (Za (nMap (ZaZ s).2).2 3).2 4).2 6).2).2).1 else 4,?_⟩
  simp only[Zo5,RT.val,hg,<-hs2,c0,c1,c2,c3,c4,c5,c6,c8,c9,hsb,hq,hr,hsc,okB,getO,Ya,Yf,Yh,Yk,Yz]
 obtain⟨p,d,hv⟩:=hv;have e1:Zo6 s=true:=by simp only[Zo6,hv];rfl
 have e2:ZbX s=(((ZaZ s).1,(nMap (ZaZ s).2).1,(Za (nMap (ZaZ s).2).2 3).1,p,d,(Za (Za (nMap (ZaZ s).2).2 3).2 4).1==0,normX o'),s'):=by simp only[ZbX,hv,getO]
 rw[e2];exact⟨e1,g1.up (by omega),⟨_,b0,rfl⟩,hch,⟨w0,by show (Za (nMap (ZaZ s).2).2 3).1<=2;omega⟩,o',g2,rfl⟩
theorem ZUl (s:Int) {l:Int} (h:0<=l):vOnC s l=true:=by simp only[vOnC,vOnT,RT.val,Yr h,Ya,okB]
theorem ZiM (s k:Int):ZiN s k=true/\ -1<=Zc0 s k/\Zc0 s k<=7:=by
 obtain⟨r,hr,h0,h1,h2⟩:=ZN (fl:=false) (t:=Zdq) (fuel:=λ_=>9)
  (λa=>∃(i:Nat) (m:Int),i<=8/\ -1<=m/\m<=7/\a=(s,k,m,(i:Int),()))
  (λa=>Int.toNat (8-a.2.2.2.1)) (λr=>r.1=false/\ -1<=r.2.2.2.1/\r.2.2.2.1<=7)
  (by
   rintro a ⟨i,m,hi,h1,h2,rfl⟩;by_cases hlt:i<8
   ·left;have d:decide ((i:Int)<8)=true:=Yr (by omega);have w:IntKind.wrap .i64 ((i:Int)+1)=((i+1:Nat):Int):=by rw[wrap_i64 _ (by omega) (by omega)];omega
    have c:vOnC s (i:Int)=true:=ZUl s (by omega);refine⟨(s,k,bif vOn s (i:Int)&&(decide (m<0)||decide (Zda (i:Int) k<Zda m k)) then (i:Int) else m,((i+1:Nat):Int),()),by simp only[Zdq,RT.val,d,c,w,Ya],⟨i+1,_,by omega,?_,?_,rfl⟩,by simp only;omega⟩
    ·cases vOn s (i:Int)&&(decide (m<0)||decide (Zda (i:Int) k<Zda m k))<;>simp only[Ya,Yb]<;>omega
    ·cases vOn s (i:Int)&&(decide (m<0)||decide (Zda (i:Int) k<Zda m k))<;>simp only[Ya,Yb]<;>omega
   ·right;left;have d:decide ((i:Int)<8)=false:=YG (by omega)
    exact⟨(s,k,m,(i:Int),()),by simp only[Zdq,RT.val,d,Yb],rfl,h1,h2⟩)
  (s,k,-1,0,()) ⟨0,-1,by omega,by omega,by omega,rfl⟩ (by simp only;omega)
 obtain⟨r1,r2⟩:=r;simp only at h0 h1 h2;subst h0;have hv:(Zld s k).val=some r2.2.2.1:=by simp only[Zld,RT.val,hr,okB,getO,Ya]
 exact⟨by simp only[ZiN,hv];rfl,by simp only[Zc0,hv,getO];exact h1,by simp only[Zc0,hv,getO];exact h2⟩
theorem ZrW (p:PICT):ZrX p=true/\ -1<=vPck p/\vPck p<=7:=by
 have key:∀r m s k q,∃v:Int,(ZgC r m s k q).val=some v/\ -1<=v/\v<=7:=by
  intro r m s k q;have h1:=ZiM (ZT .u8 r m) k;have h2:=ZiM (ZcN m s q) k;simp only[ZgC,RT.val,h1.1,h2.1,Ya];cases decide (Zc0 (ZT .u8 r m) k>=0)&&(decide (Zc0 (ZcN m s q) k<0)||decide (Zda (Zc0 (ZT .u8 r m) k) k<Zda (Zc0 (ZcN m s q) k) k))
  ·exact⟨-1,rfl,by omega,by omega⟩
  ·exact⟨_,rfl,h1.2.1,h1.2.2⟩
 obtain⟨v,hv,h1,h2⟩:=key (vReq p) p.2.2.2.2.2.2.2.2.2.2.2.2.2.2.2.1 p.2.2.2.2.2.2.2.2.2.2.2.2.2.2.1 p.2.2.2.2.2.2.2.2.2.2.2.2.2.2.2.2.1 p.2.2.2.2.2.2.2.2.2.1;have e:(ZvS p).val=some v:=by simp only[ZvS,RT.val,ZmG,ZvR,hv,okB,getO,Ya]
 exact⟨by simp only[ZrX,e];rfl,by simp only[vPck,e,getO];exact h1,by simp only[vPck,e,getO];exact h2⟩
variable {x:Int}
theorem ZDf (p:PICT) (h:0<=x):ZhZ p x=true:=by simp only[ZhZ,ZvO,RT.val,Yr h,Ya,okB]
theorem ZDh (p:PICT) (h:0<=x):ZiO p x=true:=by simp only[ZiO,ZDi,RT.val,Yr h,Ya,okB]
theorem ZUp (p:PICT):ZPS p=true:=by
 have h1:=(ZrW p).1;have h3:∀q:PICT,ZiO q (andI .i64 p.2.2.2.2.2.2.2.2.2.2.2.2.2.2.2.2.2.2.1 7)=true:=λq=>ZDh q (and7 _).1
 have h2:∀q:PICT,(!decide (vPck p>=0)||ZhZ q (vPck p))=true:=λq=>by
  by_cases h:vPck p>=0
  ·rw[ZDf q h,Yk]
  ·rw[YG h];rfl
 unfold ZPS ZJh;simp only[RT.val,h1,h2,h3,Yk,Ya];cases p.2.2.2.2.2.2.2.2.2.2.2.2.2.2.2.2.2.1==0
 ·cases p.2.2.2.2.2.2.2.2.2.2.2.2.2.2.2.2.2.1==1
  ·rfl
  ·cases p.2.2.1<;>rfl
 ·rfl
theorem ZPP (p:PICT) (h:Bool):ZDg p h=true:=by
 have h1:=(ZrW p).1;unfold ZDg ZvQ;by_cases hx:0<=vPck p
 ·have h2:∀q:PICT,ZhZ q (vPck p)=true:=λq=>ZDf q hx
  have h3:∀q:PICT,ZiO q (vPck p)=true:=λq=>ZDh q hx
  simp only[RT.val,h1,h2,h3,Zb6,Zbe,Yk,Yf,Ya];cases h
  ·cases p.2.2.2.2.2.2.2.2.2.2.2.1
   ·cases p.2.2.2.2.2.2.2.2.2.2.1<;>rfl
   ·cases decide (vPck p<0)<;>rfl
  ·rfl
 ·have h2:decide (vPck p<0)=true:=Yr (by omega);simp only[RT.val,h1,h2,Zb6,Zbe,Yk,Yt,Yf,Ya];cases h
  ·cases p.2.2.2.2.2.2.2.2.2.2.2.1
   ·cases p.2.2.2.2.2.2.2.2.2.2.1<;>rfl
   ·rfl
  ·rfl
theorem ZPR (p:PICT) (v:Int):ZvU p v=true:=by
 have h1:=λs k=>(ZiM s k).1
 have h2:∀x:Int,(!decide (x>=0)||decide (0<=x))=true:=λx=>by by_cases h:0<=x<;>simp[h]
 have h3:decide (0<=IntKind.wrap .i64 (andI .u8 v 7))=true:=by have:=ZYO v;rw[wrap_i64 _ (by omega) (by omega)];exact Yr this.1
 unfold ZvU ZvT;simp only[RT.val,h1,h2,h3,Zb6,Zbe,Yk,Yf,Ya];rfl
theorem ZJa (p:PICT) (h:Bool) (v:Int):ZrU p h v=true:=by
 unfold ZrU ZmD;simp only[RT.val,ZPR,Yk,Ya];cases h
 ·cases andI .u8 v 16 !=0
  ·cases andI .u8 v 8==0<;>rfl
  ·rfl
 ·rfl
theorem ZeQ (o:Bool) {n:Int} (h:0<=n):ZfE o n=true:=by simp only[ZfE,ZPN,RT.val,Yr h,Yk,Ya];cases o<;>rfl
theorem ZGq (l:List INPT) (hl:l.length<=1000):ZcE l=true/\(ZcH l).length=4*l.length:=by
 have hms:=mst;obtain⟨r,hr,h0,h1⟩:=ZN (fl:=false) (t:=Zc9) (fuel:=λ_=>1000000000000)
  (λa=>∃(i:Nat) (o:List Int),i<=l.length/\o.length=4*i/\a=(l,(l.length:Int),(i:Int),o,()))
  (λa=>Int.toNat (a.2.1-a.2.2.1)) (λr=>r.1=false/\r.2.2.2.2.1.length=4*l.length)
  (by
   rintro a ⟨i,o,hi,ho,rfl⟩;by_cases hlt:i<l.length
   ·left;have d:decide ((i:Int)<(l.length:Int))=true:=Yr (by omega);have d2:decide ((i:Int)>=65536)=false:=YG (by omega);have hin:Zg (i:Int) l.length=true:=ZS.2 ⟨by omega,by omega⟩;have w:IntKind.wrap .i64 ((i:Int)+1)=((i+1:Nat):Int):=by rw[wrap_i64 _ (by omega) (by omega)];omega
    have hb:∀a b c d:Int,Nat.ble (o++[a,b,c,d]).length most=true:=λa b c d=>ZbQ (by simp;omega)
    have b0:=λx=>ZeQ x (n:=0) (by decide)
    have b1:=λx=>ZeQ x (n:=1) (by decide)
    have b2:=λx=>ZeQ x (n:=2) (by decide)
    have b3:=λx=>ZeQ x (n:=3) (by decide)
    have b4:=λx=>ZeQ x (n:=4) (by decide)
    have b5:=λx=>ZeQ x (n:=5) (by decide)
    have b6:=λx=>ZeQ x (n:=6) (by decide)
    have b7:=λx=>ZeQ x (n:=7) (by decide)
    have hv:∃a b c d:Int,(Zc9 (l,(l.length:Int),(i:Int),o,())).val=some (Go1.cont (l,(l.length:Int),((i+1:Nat):Int),o++[a,b,c,d],())):=by simp only[Zc9,RT.val,d,d2,hin,w,hb,b0,b1,b2,b3,b4,b5,b6,b7,Zb6,Zbe,Yk,Yf,Yh,Yz,Ya,Yb];exact⟨_,_,_,_,rfl⟩
    obtain⟨a,b,c,d,hv⟩:=hv;exact⟨_,hv,⟨i+1,_,by omega,by simp;omega,rfl⟩,by simp only;omega⟩
   ·right;left;have d:decide ((i:Int)<(l.length:Int))=false:=YG (by omega)
    exact⟨(l,(l.length:Int),(i:Int),o,()),by simp only[Zc9,RT.val,d,Yb],rfl,by simp only;omega⟩)
  (l,(l.length:Int),0,[],()) ⟨0,[],by omega,rfl,rfl⟩ (by simp only;omega)
 obtain⟨r1,r2⟩:=r;simp only at h0 h1;subst h0;have hv:(ZdQ l).val=some r2.2.2.2.1:=by simp only[ZdQ,RT.val,iN,Le,hr,okB,getO,Ya]
 exact⟨by simp only[ZcE,hv];rfl,by simp only[ZcH,hv,getO];exact h1⟩
abbrev MacT:=List ZO×List Cell×List Int×List (Int×Int)
theorem Zmr (l:List ZO) (m:List Cell) (t v:Int):(Zbh l m t v).length<=m.length+1:=by
 have h:=Zeq m;unfold Zbh;cases decide (Zcp l t>=0)&&(R.get GR l (Zcp l t)).2.2.1
 ·exact YO h (YaU _)
 ·exact YO (ZsW _ _) (by omega)
def pre (o:List (Int×Int)) (m:MacT):MacT:=(m.1,m.2.1,m.2.2.1,o++m.2.2.2)
theorem smCb (h:l.length<=1000000):smC l=true:=ZbQ (by have:=mst;omega)
theorem smGb {l:List ZO} (h:l.length<=1000000):smG l=true:=ZbQ (by have:=mst;omega)
def Zn (b:BRDT) (s:SYST) (i:INPT):SYST:=(s.1,s.2.1,(bif !b.2.2.2.2.2.1 then Zfc s.2.2.1 i.2.2.2.2.2.2.2.2.1 else s.2.2.1),s.2.2.2)
def Zag (b:BRDT) (s:SYST) (i:INPT):LINT:=
 (i.1&&decide (Za4 s>=Zmy b s.1.2.2.2.1),i.2.1||Z3 s.2.2.2.1,i.2.2.1,i.2.2.2.1,i.2.2.2.2.1,i.2.2.2.2.2.1,i.2.2.2.2.2.2.1,i.2.2.2.2.2.2.2.1,
  bif b.2.2.2.2.2.1 then andI .u8 i.2.2.2.2.2.2.2.2.1 1==1 else vInt s.2.2.1)
def busS (b:BRDT) (s:SYST) (i:INPT):SYST×Int:=
 let x:=s.1.2.2.2.1
 let q:=Zec b (IntKind.wrap .u8 x.2.1)
 let d:=Zgz b (IntKind.wrap .u8 x.2.1)
 bif i.2.2.1||(Zm s.1 !=3|| !Zaz x.1) then (s,0) else
 bif decide (x.1>=1)&&decide (x.1<=5) then (s,ZeS b.2.1 s.2.1 x.2.1) else
 bif x.1 !=6&&b.2.2.2.2.2.1 then (s,i.2.2.2.2.2.2.2.2.2) else
 bif x.1 !=6 then ((s.1,s.2.1,(vAck s.2.2.1).1,s.2.2.2),(vAck s.2.2.1).2) else
 bif q.2 then ((s.1,s.2.1,(Zp7 s.2.2.1 q.1).1,s.2.2.2),(Zp7 s.2.2.1 q.1).2) else
 bif d.2 then (s,ZmF s.2.2.2.1 d.1) else (s,i.2.2.2.2.2.2.2.2.2)
def ZiU (b:BRDT) (s:SYST) (x:TY):SYST:=
 let q:=Zec b (IntKind.wrap .u8 x.2.1)
 let d:=Zgz b (IntKind.wrap .u8 x.2.1)
 bif x.1 !=7 then (s.1,Zbh b.2.1 s.2.1 x.2.1 x.2.2.1,s.2.2) else
 (s.1,s.2.1,(bif q.2 then ZmE s.2.2.1 q.1 x.2.2.1 else s.2.2.1),(bif q.2 then s.2.2.2.1 else bif d.2 then ZdA s.2.2.2.1 d.1 x.2.2.1 else s.2.2.2.1),s.2.2.2.2.1,
  s.2.2.2.2.2++[(IntKind.wrap .u8 x.2.1,x.2.2.1)])
def ZUJ (p:PICT) (n:Int):PICT:=
 (p.1,p.2.1,p.2.2.1,p.2.2.2.1,p.2.2.2.2.1,p.2.2.2.2.2.1,p.2.2.2.2.2.2.1,p.2.2.2.2.2.2.2.1,p.2.2.2.2.2.2.2.2.1,p.2.2.2.2.2.2.2.2.2.1,p.2.2.2.2.2.2.2.2.2.2.1,p.2.2.2.2.2.2.2.2.2.2.2.1,
  p.2.2.2.2.2.2.2.2.2.2.2.2.1,p.2.2.2.2.2.2.2.2.2.2.2.2.2.1,p.2.2.2.2.2.2.2.2.2.2.2.2.2.2.1,p.2.2.2.2.2.2.2.2.2.2.2.2.2.2.2.1,p.2.2.2.2.2.2.2.2.2.2.2.2.2.2.2.2.1,n,p.2.2.2.2.2.2.2.2.2.2.2.2.2.2.2.2.2.2)
def ZcU (p:PINT):Bool:=p.2.2.2.2.2.2.2.2.2.2.2.2.2.2.2.1
def Zgx (s:SYST) (i:INPT):Bool:= !i.2.2.1&&(Zm s.1==3&&Za5 s.1.2.2.2.1.1)
def Zgw (b:BRDT) (s:SYST) (i:INPT):SYST:=
 let t:=Zn b s i
 let u:=busS b t i
 ((Zk u.1.1 (Zag b t i) u.2),u.1.2.1,u.1.2.2.1,u.1.2.2.2.1,Za4 t,u.1.2.2.2.2.2)
def Za2 (b:BRDT) (s:SYST) (i:INPT):SYST:=bif Zgx s i then ZiU b (Zgw b s i) s.1.2.2.2.1 else Zgw b s i
def pinS (b:BRDT) (s:SYST) (i:INPT):PINT:=ZbB (busS b (Zn b s i) i).1.1 (Zag b (Zn b s i) i) (busS b (Zn b s i) i).2
def ZbY (b:BRDT) (s:SYST) (i:INPT):Bool:=ZcU (pinS b s i)&&Z3 (Za2 b s i).2.2.2.1
def Zet (b:BRDT) (s:SYST) (i:INPT):SYST:=
 let w:=Za2 b s i
 bif ZbY b s i then (w.1,Zbh b.2.1 w.2.1 w.2.2.2.1.1 w.2.2.2.1.2.1,w.2.2.1,(IntKind.wrap .u16 (w.2.2.2.1.1+1),w.2.2.2.1.2.1,IntKind.wrap .i64 (w.2.2.2.1.2.2-1)),w.2.2.2.2) else w
def Zlg (s:SYST) (r:Bool):SYST:=bif r then (s.1,s.2.1,ZUJ s.2.2.1 0,(s.2.2.2.1.1,s.2.2.2.1.2.1,0),s.2.2.2.2) else s
def ZL (b:BRDT) (s:SYST) (i:INPT):SYST×PINT×LINT×Int×Cell×Bool:=
 (Zlg (Zet b s i) i.2.2.1,pinS b s i,Zag b (Zn b s i) i,(busS b (Zn b s i) i).2,
  (bif ZbY b s i then ((Za2 b s i).2.2.2.1.1,(Za2 b s i).2.2.2.1.2.1) else (0,0)),ZbY b s i)
theorem Ze0 (b:BRDT) (s:SYST) (i:INPT):(busS b s i).1.1=s.1/\(busS b s i).1.2.1=s.2.1/\(busS b s i).1.2.2.2=s.2.2.2:=by
 unfold busS;dsimp only;cases i.2.2.1||(Zm s.1 !=3|| !Zaz s.1.2.2.2.1.1)
 ·cases decide (s.1.2.2.2.1.1>=1)&&decide (s.1.2.2.2.1.1<=5)
  ·cases s.1.2.2.2.1.1 !=6
   ·cases (Zec b (IntKind.wrap .u8 s.1.2.2.2.1.2.1)).2
    ·cases (Zgz b (IntKind.wrap .u8 s.1.2.2.2.1.2.1)).2<;>exact⟨rfl,rfl,rfl⟩
    ·exact⟨rfl,rfl,rfl⟩
   ·cases b.2.2.2.2.2.1<;>exact⟨rfl,rfl,rfl⟩
  ·exact⟨rfl,rfl,rfl⟩
 ·exact⟨rfl,rfl,rfl⟩
theorem ZJW (b:BRDT) (s:SYST) (x:TY):(ZiU b s x).1=s.1/\(ZiU b s x).2.1.length<=s.2.1.length+1/\(ZiU b s x).2.2.2.2.2.length<=s.2.2.2.2.2.length+1:=by
 have:=Zmr b.2.1 s.2.1 x.2.1 x.2.2.1;unfold ZiU;dsimp only;cases x.1 !=7
 ·exact⟨rfl,by simp only[Yb];omega,by simp only[Yb];simp⟩
 ·exact⟨rfl,by simp only[Ya];omega,by simp only[Ya];omega⟩
theorem ZSD (b:BRDT) (s:SYST) (i:INPT):(Zgw b s i).2.1=s.2.1/\(Zgw b s i).2.2.2.2.2=s.2.2.2.2.2:=by have h:=Ze0 b (Zn b s i) i;unfold Zgw;simp only[h.1,h.2.1,h.2.2];exact⟨rfl,rfl⟩
theorem ZIY (b:BRDT) (s:SYST) (i:INPT):(Za2 b s i).1=(Zgw b s i).1/\(Za2 b s i).2.1.length<=s.2.1.length+1/\(Za2 b s i).2.2.2.2.2.length<=s.2.2.2.2.2.length+1:=by
 have h1:=ZSD b s i;have h2:=ZJW b (Zgw b s i) s.1.2.2.2.1;rw[h1.1,h1.2] at h2;unfold Za2;cases Zgx s i
 ·exact⟨rfl,by simp only[Yb,h1.1];omega,by simp only[Yb,h1.2];omega⟩
 ·exact h2
theorem Zy6 (b:BRDT) (s:SYST) (i:INPT):(ZL b s i).1.1=(Zgw b s i).1/\(ZL b s i).1.2.1.length<=s.2.1.length+2/\(ZL b s i).1.2.2.2.2.2.length<=s.2.2.2.2.2.length+1:=by have h1:=ZIY b s i;have h2:=Zmr b.2.1 (Za2 b s i).2.1 (Za2 b s i).2.2.2.1.1 (Za2 b s i).2.2.2.1.2.1;unfold ZL Zlg Zet;dsimp only;cases ZbY b s i<;>cases i.2.2.1<;>simp only[Ya,Yb]<;>exact⟨h1.1,by omega,h1.2.2⟩
