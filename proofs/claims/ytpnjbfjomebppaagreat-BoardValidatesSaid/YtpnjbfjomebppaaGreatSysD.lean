import Derived.Test.YtpnjbfjomebppaaGreatRunL
import Derived.Test.YtpnjbfjomebppaaGreatS3New
open Go.Proofs.Tryz (prog)
open Go.IntKind (u8 u16 i64)
set_option linter.unusedSimpArgs false
open Go Go.S3 Go.Proofs
set_option linter.unusedVariables false
set_option maxRecDepth 100000
namespace Go.Proofs.YtpnjbfjomebppaaGreat
noncomputable section
abbrev Zrt:R:=R.Pq (R.int u16) (R.int u8)
abbrev Zru:Nat:=75
abbrev Zyd:List Sh:=[Sh.one rcCE,Sh.agg (R.Pq (R.int u16) (R.int u8))]
def ZPc:LS:={n:=53,Sl:=[(3,.fix (A.loc 0 0)),(5,.tip 0),(6,.code (Sh.one R.bool)),(9,.code (Sh.one rcCE)),(10,.code (Sh.one (R.int i64))),(11,.code (Sh.one (R.int i64)))],Bx:=[[.many (R.Pq (R.int u16) (R.int u8))]],Sg:=[⟨(R.Pq (R.int u16) (R.int u8)),75,false⟩]}
def ZCM (a:QT9):RT (Option (Go1 (QT9))):=
 let x1:Int×Int:=R.get (R.Pq (R.int u16) (R.int u8)) a.2.1 a.2.2.2.1
 let x2:=x1.1
 let x3:= !a.1&&decide (x2>=a.2.2.2.2.1.1)
 let x4:List (Int×Int):=a.2.2.2.2.2.1++[a.2.2.2.2.1]
 let x5:= !x3||(!a.2.2.2.2.1.2 !=0||Nat.ble (List.length x4) most)
 let x6:=x2 !=a.2.2.2.2.1.1
 let x7:List (Int×Int):=bif x3 then bif a.2.2.2.2.1.2 !=0 then x4 else a.2.2.2.2.2.1 else a.2.2.2.2.2.1
 let x8:List (Int×Int):=x7++[x1]
 .br (decide (a.2.2.2.1<a.2.2.1)) (.br (!Zf a.2.2.2.1 (List.length a.2.1)||(!x5||(!x6||Nat.ble (List.length x8) most))) (.br (!Zf a.2.2.2.1 (List.length a.2.1)||x5) (.br (Zf a.2.2.2.1 (List.length a.2.1)) (.Lf (some (Go1.cont (x3||a.1,a.2.1,a.2.2.1,i64.wrap (a.2.2.2.1+1),a.2.2.2.2.1,bif x6 then x8 else x7,PUnit.unit)))) (.Lf none)) (.Lf none)) (.Lf none)) (.Lf (some (Go1.brk (a.1,a.2.1,a.2.2.1,a.2.2.2.1,a.2.2.2.2.1,a.2.2.2.2.2.1,PUnit.unit))))
def ZCN:Ora:=Zbo false ZPc ZCM (λa=>1000000000000)
theorem ZFq:Za3 (envX prog [] [] 511 8) (.block 0 (.loop (Z2 Tryz.f165.body 0))) ZCN:=
 loopP trivial
def ZCL (m:List (Int×Int)) (c:Int×Int):RT (Option (List (Int×Int))):=
 let x1:QT9:=(false,m,iN (List.length m),0,c,[],())
 let x2:=runF false ZCM (λa=>1000000000000) x1
 let x3:QT9:=(getO (false,x1) x2).2
 let x4:=x3.2.2.2.2
 let x5:=x4.1
 let x6:= !x3.1&&x5.2 !=0
 let x7:=x4.2.1
 let x8:List (Int×Int):=x7++[x5]
 .br (okB x2) (.br (!x6||Nat.ble (List.length x8) most) (.Lf (some (bif x6 then x8 else x7))) (.Lf none)) (.Lf none)
def ZPd (m:List (Int×Int)) (c:Int×Int):List (Int×Int):=getO [] (ZCL m c).val
def ZCO (m:List (Int×Int)) (c:Int×Int):Bool:=okB (ZCL m c).val
def ZJh:En:=frzE (newE Zrt Zru Zyd (λa=>some (ZCO a.1 a.2)) (λa=>ZPd a.1 a.2))
theorem ZJi:Za prog 165 (newE Zrt Zru Zyd (λa=>some (ZCO a.1 a.2)) (λa=>ZPd a.1 a.2)):=
 ZkP (P:=prog) (n:=511) (k:=8) (l:=[]) (ol:=[(0,ZCN)]) trivial Tryz.func165 rfl (by kernel_rfl) Tryz.call165 ⟨ZFq,Tv⟩ (r:=Zrt) (T:=Zru) (ts:=Zyd) (t:=λa=>ZCL a.1 a.2) (λa=>by kernel_rfl)
theorem ZCK:Za prog 165 ZJh:=Zw7 ZJi
abbrev ZkA:R:=R.Pq (R.int u16) (R.int u8)
abbrev ZkB:Nat:=75
abbrev Zry:List Sh:=[Sh.one rcCE]
def ZJC:LS:={n:=21,Sl:=[(3,.tip 0),(10,.code (Sh.one rcCE)),(11,.code (Sh.one (R.int i64))),(12,.code (Sh.one (R.int i64)))],Bx:=[],Sg:=[⟨(R.Pq (R.int u16) (R.int u8)),75,false⟩]}
def ZfQ (a:List (Int×Int)×Int×Int×List (Int×Int)×PUnit):RT (Option (Go1 (List (Int×Int)×Int×Int×List (Int×Int)×PUnit))):=
 .br (decide (a.2.2.1<a.2.1)) (.br (!Zf a.2.2.1 (List.length a.1)||ZCO a.2.2.2.1 (R.get (R.Pq (R.int u16) (R.int u8)) a.1 a.2.2.1)) (.br (Zf a.2.2.1 (List.length a.1)) (.Lf (some (Go1.cont (a.1,a.2.1,i64.wrap (a.2.2.1+1),Stg.l (newG Zrt Zru (ZPd a.2.2.2.1 (R.get (R.Pq (R.int u16) (R.int u8)) a.1 a.2.2.1))),PUnit.unit)))) (.Lf none)) (.Lf none)) (.Lf (some (Go1.brk (a.1,a.2.1,a.2.2.1,a.2.2.2.1,PUnit.unit))))
def Zvr:Ora:=Zbo false ZJC ZfQ (λa=>1000000000000)
theorem Zyl:Za3 (envX prog [(105,Zkw),(165,ZJh)] [] 63 8) (.block 0 (.loop (Z2 Tryz.f93.body 0))) Zvr:=
 loopP ⟨Zi0,ZCK,Tv⟩
def Zi2 (l:List (Int×Int)):RT (Option (List (Int×Int))):=
 let x1:=runF false ZfQ (λa=>1000000000000) (l,iN (List.length l),0,[],())
 .br (smC l) (.br (!vldB l||Nat.ble (List.length ([]++l)) most) (.br (vldB l) (.Lf (some ([]++l))) (.br (okB x1) (.Lf (some (getO (false,l,iN (List.length l),0,[],()) x1).2.2.2.2.1)) (.Lf none))) (.Lf none)) (.Lf none)
def Zvs (l:List (Int×Int)):List (Int×Int):=getO [] (Zi2 l).val
def ZlF (l:List (Int×Int)):Bool:=okB (Zi2 l).val
def Zym:En:=frzE (newE ZkA ZkB Zry (λa=>some (ZlF a)) (λa=>Zvs a))
theorem ZFu:Za prog 93 (newE ZkA ZkB Zry (λa=>some (ZlF a)) (λa=>Zvs a)):=
 ZkP (P:=prog) (n:=63) (k:=8) (l:=[(105,Zkw),(165,ZJh)]) (ol:=[(0,Zvr)]) ⟨Zi0,ZCK,Tv⟩ Tryz.func93 rfl (by kernel_rfl) Tryz.call93 ⟨Zyl,Tv⟩ (r:=ZkA) (T:=ZkB) (ts:=Zry) (t:=λa=>Zi2 a) (λa=>by kernel_rfl)
theorem Zvq:Za prog 93 Zym:=Zw7 ZFu
abbrev Zgw:R:=R.Pq (R.int u16) (R.int u8)
abbrev Zgx:Nat:=75
abbrev ZrJ:List Sh:=[Sh.one (R.int u16),Sh.one (R.sl (R.int u8))]
def ZJJ:LS:={n:=27,Sl:=[(0,.code (Sh.one (R.int u16))),(1,.code (Sh.one (R.sl (R.int u8)))),(5,.tip 0),(8,.code (Sh.one (R.int i64))),(9,.code (Sh.one (R.int i64)))],Bx:=[],Sg:=[⟨(R.Pq (R.int u16) (R.int u8)),75,true⟩]}
def ZfR (a:QT28):RT (Option (Go1 (QT28))):=
 let x1:List (Int×Int):=a.2.2.2.2.1++[(u16.wrap (a.1+u16.wrap a.2.2.2.1),R.get (R.int u8) a.2.1 a.2.2.2.1)]
 let x2:= !Zf a.2.2.2.1 (List.length a.2.1)||Nat.ble (List.length x1) most
 .br (decide (a.2.2.2.1<a.2.2.1)) (.br (!x2||Zf a.2.2.2.1 (List.length a.2.1)) (.br (x2) (.Lf (some (Go1.cont (a.1,a.2.1,a.2.2.1,i64.wrap (a.2.2.2.1+1),x1,PUnit.unit)))) (.Lf none)) (.Lf none)) (.Lf (some (Go1.brk (a.1,a.2.1,a.2.2.1,a.2.2.2.1,a.2.2.2.2.1,PUnit.unit))))
def Zvt:Ora:=Zbo false ZJJ ZfR (λa=>1000000000000)
theorem Zy0:Za3 (envX prog [(93,Zym)] [] 127 8) (.block 0 (.loop (Z2 Tryz.f59.body 0))) Zvt:=
 loopP ⟨Zvq,Tv⟩
def Zmj (t:Int) (b:List Int):RT (Option (List (Int×Int))):=
 let x1:=runF false ZfR (λa=>1000000000000) (t,b,iN (List.length b),0,[],())
 let x2:List (Int×Int):=(getO (false,t,b,iN (List.length b),0,[],()) x1).2.2.2.2.2.1
 .br (okB x1) (.br (ZlF x2) (.Lf (some (Stg.l (newG ZkA ZkB (Zvs x2))))) (.Lf none)) (.Lf none)
def ZJK (t:Int) (b:List Int):List (Int×Int):=getO [] (Zmj t b).val
def Zy1 (t:Int) (b:List Int):Bool:=okB (Zmj t b).val
theorem ZFF:Za prog 59 (newE Zgw Zgx ZrJ (λa=>some (Zy1 a.1 a.2)) (λa=>ZJK a.1 a.2)):=
 ZkP (P:=prog) (n:=127) (k:=8) (l:=[(93,Zym)]) (ol:=[(0,Zvt)]) ⟨Zvq,Tv⟩ Tryz.func59 rfl (by kernel_rfl) Tryz.call59 ⟨Zy0,Tv⟩ (r:=Zgw) (T:=Zgx) (ts:=ZrJ) (t:=λa=>Zmj a.1 a.2) (λa=>by kernel_rfl)
end
end Go.Proofs.YtpnjbfjomebppaaGreat
open Go Go.S3 Go.Proofs Go.Proofs.Cells
namespace Go.Proofs.YtpnjbfjomebppaaGreat
noncomputable section
theorem ZIV (m:List Cell) (c:Cell) (hv:Vld m) (hm:m.length+1<=most):ZCO m c=true/\ZPd m c=putX m c:=by have h:=Zu4 m c hv hm;have e:ZCL m c=ZpQ m c:=rfl;simp only[Zvl,ZJl,<-e] at h;exact h
theorem ZFi (l:List Cell) (hl:l.length+1<=most):ZlF l=true/\Zvs l=normX l:=by
 have hms:=mst;have hs:smC l=true:=(ZuV.2 hl:sm l=true);have hv:(Zi2 l).val=some (normX l):=by
  cases hb:vldB l with
  |true=>
   have e:Nat.ble l.length most=true:=by rw[YF];omega
   simp only[Zi2,RT.val,hs,hb,List.nil_append,e,Yb,Yg,Yj,ZgA (Zkn.1 hb)]
  |false=>
   obtain⟨r,hr,h1,i,hR⟩:=ZO (fl:=false) (t:=ZfQ) (fuel:=λa=>1000000000000)
    (λa=>∃i:Nat,i<=l.length/\a=(l,(l.length:Int),(i:Int),normX (l.take i),()))
    (λa=>Int.toNat (a.2.1-a.2.2.1)) (λr=>r.1=false/\∃i:Nat,r.2=(l,(l.length:Int),(i:Int),normX l,()))
    (by
     rintro a ⟨i,hi,rfl⟩;by_cases hlt:i<l.length
     ·left;have d:decide ((i:Int)<(l.length:Int))=true:=by simpa using hlt
      have r1:=Zaq l i hlt;have hlen:=ZeH (l.take i);rw[YD] at hlen;have hp:=ZIV (normX (l.take i)) (el l i) (ZnR _) (by omega);refine⟨_,?_,⟨i+1,hlt,rfl⟩,by simp only;omega⟩;rw[ZxI l i hlt,Zjk];simp only[ZfQ,RT.val,d,r1,Zcs,hp.1,hp.2,Yb,Yk,ZgN i (by omega)]
     ·right;left;have d:decide ((i:Int)<(l.length:Int))=false:=by simpa using hlt
      have e:l.take i=l:=YT (by omega);rw[e]
      exact⟨_,by simp only[ZfQ,RT.val,d,Ye],rfl,i,rfl⟩)
    (l,iN l.length,0,[],()) ⟨0,YE _,rfl⟩ (by simp only[iN];omega)
   obtain⟨r1,r2⟩:=r;simp only at h1 hR;subst h1 hR;simp only[Zi2,RT.val,hs,hb,hr,okB,getO,Yb,Ye,Yq,YB]
 exact⟨by simp only[ZlF,hv];rfl,by simp only[Zvs,hv,getO]⟩
theorem ZFj (t:Int) (b:List Int) (hb:b.length+1<=most):Zy1 t b=true/\ZJK t b=Zpe t b:=by
 have hms:=mst;obtain⟨r,hr,h1,hR⟩:=ZO (fl:=false) (t:=ZfR) (fuel:=λa=>1000000000000)
  (λa=>∃i:Nat,i<=b.length/\a=(t,b,(b.length:Int),(i:Int),Zol t b i,()))
  (λa=>Int.toNat (a.2.2.1-a.2.2.2.1)) (λr=>r.1=false/\r.2=(t,b,(b.length:Int),(b.length:Int),Zol t b b.length,()))
  (by
   rintro a ⟨i,hi,rfl⟩;by_cases hlt:i<b.length
   ·left;have d:decide ((i:Int)<(b.length:Int))=true:=by simpa using hlt
    have r1:=Zaq b i hlt;have hl:∀x:Cell,Nat.ble (Zol t b i++[x]).length most=true:=λx=>by rw[YF,Yc,Zok];simp only[List.length_singleton];omega
    refine⟨_,?_,⟨i+1,hlt,rfl⟩,by simp only;omega⟩;rw[ZHn];have g:=get_d b i;simp only[ZfR,RT.val,d,r1,g,hl,Yb,Yg,Yj,ZgN i (by omega)]
   ·right;left;have d:decide ((i:Int)<(b.length:Int))=false:=by simpa using hlt
    have e:i=b.length:=by omega
    subst e
    exact⟨_,by simp only[ZfR,RT.val,d,Ye],rfl,rfl⟩)
  (t,b,iN b.length,0,[],()) ⟨0,YE _,rfl⟩ (by simp only[iN];omega)
 obtain⟨r1,r2⟩:=r;simp only at h1 hR;subst h1 hR;have hn:=ZFi (Zol t b b.length) (by rw[Zok];exact hb);have hv:(Zmj t b).val=some (Zpe t b):=by simp only[Zmj,RT.val,hr,okB,getO,Yb,hn.1,hn.2,Zpe]
 exact⟨by simp only[Zy1,hv];rfl,by simp only[ZJK,hv,getO]⟩
def ZrK:En:=frzE (newE Zgw Zgx ZrJ (λa=>some (smB a.2)) (λa=>Zpe a.1 a.2))
theorem ZpU:Za Tryz.prog 59 ZrK:=Zw7 (ZG5 ZFF λa _ h=>by
 have hb:smB a.2=true:=by cases hq:smB a.2 with
  |true=>rfl
  |false=>rw[hq] at h;exact absurd rfl h
 obtain⟨h1,h2⟩:=ZFj a.1 a.2 (ZuV.1 hb)
 exact⟨by rw[h1];simp,h2⟩)
abbrev ZBd:R:=R.Pq (R.sl (R.int i64)) (R.int i64)
abbrev ZMU:List Sh:=[]
abbrev ZBc:Rs:=Rs.one (Sh.one R.bool)
def ZEl (s:List Int×Int):RT (Option (Bool×List Int×Int)):=
 .br (Zh s 2) (.Lf (some (((Zb s 2).1==1,(Zb s 2).2)))) (.Lf none)
def Z8 (s:List Int×Int):Bool×List Int×Int:=getO (ZBc.Df,ZBd.Df) (ZEl s).val
def Za9 (s:List Int×Int):Bool:=okB (ZEl s).val
def ZSB:En:=boxE ZBd ZMU ZBc (λa=>some (Za9 a.1)) (λa=>Z8 a.1)
theorem ZQy:Za prog 69 ZSB:=
 Zb8 (P:=prog) (n:=7) (k:=8) (l:=[(68,Zcn)]) (ol:=[]) ⟨ZaT,Tv⟩ Tryz.func69 rfl (by kernel_rfl) Tryz.call69 trivial (rb:=ZBd) (ts:=ZMU) (rs:=ZBc) (t:=λa=>ZEl a.1) (λa=>by kernel_rfl)
abbrev ZeI:R:=R.Pq (R.int u16) (R.Pq (R.int u16) (R.Pq R.bool (R.int i64)))
abbrev ZeJ:Nat:=110
abbrev ZgC:R:=R.Pq (R.sl (R.int i64)) (R.int i64)
abbrev Zjl:List Sh:=[Sh.one (R.int i64)]
def ZA7:LS:={n:=44,Sl:=[(0,.fix (A.loc 0 0)),(5,.tip 0),(6,.code (Sh.one (R.int i64)))],Bx:=[[.many (R.Pq (R.sl (R.int i64)) (R.int i64))]],Sg:=[⟨(R.Pq (R.int u16) (R.Pq (R.int u16) (R.Pq R.bool (R.int i64)))),110,false⟩]}
def ZdS (a:QT19):RT (Option (Go1 (QT19))):=
 let x1:= !Zh (Zby a.2.1).2 6||Zf (Zb (Zby a.2.1).2 6).1 (List.length [0,3,15,255,4095,65535])
 let x2:= !x1
 let x3:= !Zh (Zb (Zb (Zby a.2.1).2 6).2 3).2 5
 let x4:Int:=(Zb (Zb (Zb (Zby a.2.1).2 6).2 3).2 5).1
 let x5:=Zf x4 (List.length [0,0,1,2,5])
 let x6:=i64.wrap (i64.wrap (Zby a.2.1).1+R.get (R.int i64) [0,3,15,255,4095,65535] (Zb (Zby a.2.1).2 6).1)
 let x7:List (QT7):=a.2.2.1++[((Zby a.2.1).1,u16.wrap (if 65535<x6 then 65535 else x6),decide ((Zb (Zb (Zby a.2.1).2 6).2 3).1>0),R.get (R.int i64) [0,0,1,2,5] x4)]
 let x8:= !Zh (Zb (Zby a.2.1).2 6).2 3||(x3||(!x5||Nat.ble (List.length x7) most))
 let x9:= !x8
 let x10:= !Zh (Zb (Zby a.2.1).2 6).2 3||(x3||x5)
 let x11:= !x10
 let x12:= !Zh (Zb (Zby a.2.1).2 6).2 3||Zh (Zb (Zb (Zby a.2.1).2 6).2 3).2 5
 .br (decide (a.1>0)) (.br (!Zfr a.2.1||(x2||(!Zh (Zby a.2.1).2 6||(x9||(x11||(!x12||Zh (Zb (Zby a.2.1).2 6).2 3)))))) (.br (!Zfr a.2.1||(x2||(!Zh (Zby a.2.1).2 6||(x9||(x11||x12))))) (.br (!Zfr a.2.1||(x2||(!Zh (Zby a.2.1).2 6||(x9||x10)))) (.br (!Zfr a.2.1||(x2||(!Zh (Zby a.2.1).2 6||x8))) (.br (!Zfr a.2.1||(x2||Zh (Zby a.2.1).2 6)) (.br (!Zfr a.2.1||x1) (.br (Zfr a.2.1) (.Lf (some (Go1.cont (i64.wrap (a.1-1),(Zb (Zb (Zb (Zby a.2.1).2 6).2 3).2 5).2,x7,PUnit.unit)))) (.Lf none)) (.Lf none)) (.Lf none)) (.Lf none)) (.Lf none)) (.Lf none)) (.Lf none)) (.Lf (some (Go1.brk (a.1,a.2.1,a.2.2.1,PUnit.unit))))
def ZnU:Ora:=Zbo false ZA7 ZdS (λa=>400)
theorem ZtG:Za3 (envX prog [(68,Zcn),(70,ZMM)] [] 511 8) (.block 0 (.loop (Z2 Tryz.f188.body 0))) ZnU:=
 loopP ⟨ZaT,ZEh,Tv⟩
def Zf3 (s:List Int×Int) (n:Int):RT (Option (List (QT7)×List Int×Int)):=
 let x1:QT19:=((Zb s (i64.wrap (n+1))).1,(Zb s (i64.wrap (n+1))).2,[],())
 let x2:=runF false ZdS (λa=>400) x1
 let x3:(List Int×Int)×List (QT7)×PUnit:=(getO (false,x1) x2).2.2
 .br (Zh s (i64.wrap (n+1))) (.br (okB x2) (.Lf (some ((x3.2.1,x3.1)))) (.Lf none)) (.Lf none)
def Za4 (s:List Int×Int) (n:Int):List (QT7)×List Int×Int:=getO ([],ZgC.Df) (Zf3 s n).val
def Zc3 (s:List Int×Int) (n:Int):Bool:=okB (Zf3 s n).val
def Zwp:En:=frzE (ZG7 ZgC ZeI ZeJ Zjl (λa=>some (Zc3 a.1 a.2)) (λa=>Za4 a.1 a.2))
theorem Zwq:Za prog 188 (ZG7 ZgC ZeI ZeJ Zjl (λa=>some (Zc3 a.1 a.2)) (λa=>Za4 a.1 a.2)):=
 ZMI (P:=prog) (n:=511) (k:=8) (l:=[(68,Zcn),(70,ZMM)]) (ol:=[(0,ZnU)]) ⟨ZaT,ZEh,Tv⟩ Tryz.func188 rfl (by kernel_rfl) Tryz.call188 ⟨ZtG,Tv⟩ (rb:=ZgC) (r:=ZeI) (T:=ZeJ) (ts:=Zjl) (t:=λa=>Zf3 a.1 a.2) (λa=>by kernel_rfl)
theorem ZA5:Za prog 188 Zwp:=Zw7 Zwq
abbrev ZMS:R:=R.Pq (R.sl (R.int i64)) (R.int i64)
abbrev ZSA:List Sh:=[]
abbrev ZMR:Rs:=Rs.one (Sh.one rcRG)
def ZMQ (s:List Int×Int):RT (Option (List (QT7)×List Int×Int)):=
 let x1:List (QT7):=Stg.l (newG ZeI ZeJ (Za4 s 2).1)++[(0,65535,true,i64.wrap (Int.tdiv (Zb (Za4 s 2).2 3).1 2))]
 .br (!Zc3 s 2||(!Zh (Za4 s 2).2 3||Nat.ble (List.length x1) most)) (.br (!Zc3 s 2||Zh (Za4 s 2).2 3) (.br (Zc3 s 2) (.Lf (some ((x1,(Zb (Za4 s 2).2 3).2)))) (.Lf none)) (.Lf none)) (.Lf none)
def nMap (s:List Int×Int):List (QT7)×List Int×Int:=getO (ZMR.Df,ZMS.Df) (ZMQ s).val
def ZHa (s:List Int×Int):Bool:=okB (ZMQ s).val
def ZU2:En:=boxE ZMS ZSA ZMR (λa=>some (ZHa a.1)) (λa=>nMap a.1)
theorem ZMO:Za prog 123 ZU2:=
 Zb8 (P:=prog) (n:=7) (k:=8) (l:=[(68,Zcn),(188,Zwp)]) (ol:=[]) ⟨ZaT,ZA5,Tv⟩ Tryz.func123 rfl (by kernel_rfl) Tryz.call123 trivial (rb:=ZMS) (ts:=ZSA) (rs:=ZMR) (t:=λa=>ZMQ a.1) (λa=>by kernel_rfl)
abbrev Zjn:R:=R.Pq (R.sl (R.int i64)) (R.int i64)
abbrev Zqm:List Sh:=[Sh.one (R.int i64)]
abbrev Zjm:Rs:=Rs.one (Sh.one (R.sl (R.int u8)))
def ZA9:LS:={n:=75,Sl:=[(0,.fix (A.loc 0 0)),(5,.tip 0),(6,.code (Sh.one (R.int i64)))],Bx:=[[.many (R.Pq (R.sl (R.int i64)) (R.int i64))]],Sg:=[⟨(R.int u8),5,true⟩]}
def ZcL (a:QT26):RT (Option (Go1 (QT26))):=
 let x1:=Zf (Zb (Zb a.2.1 8).2 4).1 (List.length [33,49,1,17])
 let x2:= !x1
 let x3:=Zh (Zb (Zb (Zb a.2.1 8).2 4).2 256).2 4
 let x4:= !x3
 let x5:=Zb (Zb (Zb (Zb a.2.1 8).2 4).2 256).2 4
 let x6:=x5.1
 let x7:=Zf x6 (List.length [0,0,1,255])
 let x8:List Int:=a.2.2.1++[R.get (R.int u8) [33,49,1,17] (Zb (Zb a.2.1 8).2 4).1,u8.wrap (Zb (Zb (Zb a.2.1 8).2 4).2 256).1,R.get (R.int u8) [0,0,1,255] x6]
 let x9:= !(Zb a.2.1 8).1==0||(!Zh (Zb a.2.1 8).2 4||(x2||(!Zh (Zb (Zb a.2.1 8).2 4).2 256||(x4||(!x7||Nat.ble (List.length x8) most)))))
 let x10:= !x9
 let x11:= !(Zb a.2.1 8).1==0||(!Zh (Zb a.2.1 8).2 4||(x2||(!Zh (Zb (Zb a.2.1 8).2 4).2 256||(x4||x7))))
 let x12:= !x11
 let x13:= !(Zb a.2.1 8).1==0||(!Zh (Zb a.2.1 8).2 4||(x2||(!Zh (Zb (Zb a.2.1 8).2 4).2 256||x3)))
 let x14:= !x13
 let x15:= !(Zb a.2.1 8).1==0||(!Zh (Zb a.2.1 8).2 4||(x2||Zh (Zb (Zb a.2.1 8).2 4).2 256))
 let x16:= !x15
 let x17:= !(Zb a.2.1 8).1==0||(!Zh (Zb a.2.1 8).2 4||x1)
 let x18:= !x17
 let x19:= !(Zb a.2.1 8).1==0||Zh (Zb a.2.1 8).2 4
 let x20:= !x19
 let x21:List Int:=a.2.2.1++[62,(Zcx (Zb a.2.1 8).2).1,211,u8.wrap (Zb (Zcx (Zb a.2.1 8).2).2 8).1]
 let x22:=(Zb a.2.1 8).1==0||(!(Zb a.2.1 8).1==1||(!Zf6 (Zb a.2.1 8).2||(!Zh (Zcx (Zb a.2.1 8).2).2 8||Nat.ble (List.length x21) most)))
 let x23:= !x22
 let x24:=(Zb a.2.1 8).1==0||(!(Zb a.2.1 8).1==1||(!Zf6 (Zb a.2.1 8).2||Zh (Zcx (Zb a.2.1 8).2).2 8))
 let x25:= !x24
 let x26:=(Zb a.2.1 8).1==0||(!(Zb a.2.1 8).1==1||Zf6 (Zb a.2.1 8).2)
 let x27:= !x26
 let x28:=(Zb a.2.1 8).1==0||((Zb a.2.1 8).1==1||(!(Zb a.2.1 8).1==2||Nat.ble (List.length (a.2.2.1++[251])) most))
 let x29:= !x28
 let x30:List Int:=a.2.2.1++[62,u8.wrap (i64.wrap (16+(Zb (Zb a.2.1 8).2 16).1)),211,0,62,(Zcx (Zb (Zb a.2.1 8).2 16).2).1,211,1,62,0,211,1]
 let x31:=(Zb a.2.1 8).1==0||((Zb a.2.1 8).1==1||((Zb a.2.1 8).1==2||(!(Zb a.2.1 8).1==3||(!Zh (Zb a.2.1 8).2 16||(!Zf6 (Zb (Zb a.2.1 8).2 16).2||Nat.ble (List.length x30) most)))))
 let x32:= !x31
 let x33:=(Zb a.2.1 8).1==0||((Zb a.2.1 8).1==1||((Zb a.2.1 8).1==2||(!(Zb a.2.1 8).1==3||(!Zh (Zb a.2.1 8).2 16||Zf6 (Zb (Zb a.2.1 8).2 16).2))))
 let x34:= !x33
 let x35:=(Zb a.2.1 8).1==0||((Zb a.2.1 8).1==1||((Zb a.2.1 8).1==2||(!(Zb a.2.1 8).1==3||Zh (Zb a.2.1 8).2 16)))
 let x36:= !x35
 let x37:= !Zh (Zb (Zac (Zb a.2.1 8).2).2 64).2 4
 let x38:Int:=(Zb (Zb (Zac (Zb a.2.1 8).2).2 64).2 4).1
 let x39:=Zf x38 (List.length [0,0,1,255])
 let x40:List Int:=a.2.2.1++[(Zac (Zb a.2.1 8).2).1,u8.wrap (Zb (Zac (Zb a.2.1 8).2).2 64).1,R.get (R.int u8) [0,0,1,255] x38]
 let x41:=(Zb a.2.1 8).1==0||((Zb a.2.1 8).1==1||((Zb a.2.1 8).1==2||((Zb a.2.1 8).1==3||(!ZbT (Zb a.2.1 8).2||(!Zh (Zac (Zb a.2.1 8).2).2 64||(x37||(!x39||Nat.ble (List.length x40) most)))))))
 let x42:= !x41
 let x43:=(Zb a.2.1 8).1==0||((Zb a.2.1 8).1==1||((Zb a.2.1 8).1==2||((Zb a.2.1 8).1==3||(!ZbT (Zb a.2.1 8).2||(!Zh (Zac (Zb a.2.1 8).2).2 64||(x37||x39))))))
 let x44:= !x43
 let x45:=(Zb a.2.1 8).1==0||((Zb a.2.1 8).1==1||((Zb a.2.1 8).1==2||((Zb a.2.1 8).1==3||(!ZbT (Zb a.2.1 8).2||(!Zh (Zac (Zb a.2.1 8).2).2 64||Zh (Zb (Zac (Zb a.2.1 8).2).2 64).2 4)))))
 let x46:= !x45
 let x47:=(Zb a.2.1 8).1==0||((Zb a.2.1 8).1==1||((Zb a.2.1 8).1==2||((Zb a.2.1 8).1==3||(!ZbT (Zb a.2.1 8).2||Zh (Zac (Zb a.2.1 8).2).2 64))))
 let x48:=x10||(x12||(x14||(x16||(x18||(x20||(x23||(x25||(x27||(x29||(x32||(x34||(x36||(x42||(x44||(x46||(!x47||((Zb a.2.1 8).1==0||((Zb a.2.1 8).1==1||((Zb a.2.1 8).1==2||((Zb a.2.1 8).1==3||ZbT (Zb a.2.1 8).2))))))))))))))))))))
 let x49:= !x48
 let x50:=x10||(x12||(x14||(x16||(x18||(x20||(x23||(x25||(x27||(x29||(x32||(x34||(x36||(x42||(x44||(x46||x47)))))))))))))))
 let x51:= !x50
 let x52:=x10||(x12||(x14||(x16||(x18||(x20||(x23||(x25||(x27||(x29||(x32||(x34||(x36||(x42||(x44||x45))))))))))))))
 let x53:= !x52
 let x54:=x10||(x12||(x14||(x16||(x18||(x20||(x23||(x25||(x27||(x29||(x32||(x34||(x36||(x42||x43)))))))))))))
 let x55:= !x54
 let x56:=x10||(x12||(x14||(x16||(x18||(x20||(x23||(x25||(x27||(x29||(x32||(x34||(x36||x41))))))))))))
 let x57:= !x56
 let x58:=x10||(x12||(x14||(x16||(x18||(x20||(x23||(x25||(x27||(x29||(x32||(x34||x35)))))))))))
 let x59:= !x58
 let x60:=x10||(x12||(x14||(x16||(x18||(x20||(x23||(x25||(x27||(x29||(x32||x33))))))))))
 let x61:= !x60
 let x62:=x10||(x12||(x14||(x16||(x18||(x20||(x23||(x25||(x27||(x29||x31)))))))))
 let x63:= !x62
 let x64:=x10||(x12||(x14||(x16||(x18||(x20||(x23||(x25||(x27||x28))))))))
 let x65:= !x64
 let x66:=x10||(x12||(x14||(x16||(x18||(x20||(x23||(x25||x26)))))))
 let x67:= !x66
 let x68:=x10||(x12||(x14||(x16||(x18||(x20||(x23||x24))))))
 let x69:= !x68
 let x70:=x10||(x12||(x14||(x16||(x18||(x20||x22)))))
 let x71:= !x70
 let x72:=x10||(x12||(x14||(x16||(x18||x19))))
 let x73:= !x72
 let x74:=x10||(x12||(x14||(x16||x17)))
 let x75:= !x74
 let x76:=x10||(x12||(x14||x15))
 let x77:= !x76
 let x78:=x10||(x12||x13)
 let x79:= !x78
 let x80:=x10||x11
 let x81:List Int×Int:=(Zb (Zb (Zac (Zb a.2.1 8).2).2 64).2 4).2
 .br (decide (a.1>0)) (.br (!Zh a.2.1 8||(x49||(x51||(x53||(x55||(x57||(x59||(x61||(x63||(x65||(x67||(x69||(x71||(x73||(x75||(x77||(x79||(!x80||x9)))))))))))))))))) (.br (!Zh a.2.1 8||(x49||(x51||(x53||(x55||(x57||(x59||(x61||(x63||(x65||(x67||(x69||(x71||(x73||(x75||(x77||(x79||x80))))))))))))))))) (.br (!Zh a.2.1 8||(x49||(x51||(x53||(x55||(x57||(x59||(x61||(x63||(x65||(x67||(x69||(x71||(x73||(x75||(x77||x78)))))))))))))))) (.br (!Zh a.2.1 8||(x49||(x51||(x53||(x55||(x57||(x59||(x61||(x63||(x65||(x67||(x69||(x71||(x73||(x75||x76))))))))))))))) (.br (!Zh a.2.1 8||(x49||(x51||(x53||(x55||(x57||(x59||(x61||(x63||(x65||(x67||(x69||(x71||(x73||x74)))))))))))))) (.br (!Zh a.2.1 8||(x49||(x51||(x53||(x55||(x57||(x59||(x61||(x63||(x65||(x67||(x69||(x71||x72))))))))))))) (.br (!Zh a.2.1 8||(x49||(x51||(x53||(x55||(x57||(x59||(x61||(x63||(x65||(x67||(x69||x70)))))))))))) (.br (!Zh a.2.1 8||(x49||(x51||(x53||(x55||(x57||(x59||(x61||(x63||(x65||(x67||x68))))))))))) (.br (!Zh a.2.1 8||(x49||(x51||(x53||(x55||(x57||(x59||(x61||(x63||(x65||x66)))))))))) (.br (!Zh a.2.1 8||(x49||(x51||(x53||(x55||(x57||(x59||(x61||(x63||x64))))))))) (.br (!Zh a.2.1 8||(x49||(x51||(x53||(x55||(x57||(x59||(x61||x62)))))))) (.br (!Zh a.2.1 8||(x49||(x51||(x53||(x55||(x57||(x59||x60))))))) (.br (!Zh a.2.1 8||(x49||(x51||(x53||(x55||(x57||x58)))))) (.br (!Zh a.2.1 8||(x49||(x51||(x53||(x55||x56))))) (.br (!Zh a.2.1 8||(x49||(x51||(x53||x54)))) (.br (!Zh a.2.1 8||(x49||(x51||x52))) (.br (!Zh a.2.1 8||(x49||x50)) (.br (!Zh a.2.1 8||x48) (.br (Zh a.2.1 8) (.br ((Zb a.2.1 8).1==0) (.Lf (some (Go1.cont (i64.wrap (a.1-1),x5.2,x8,PUnit.unit)))) (.br ((Zb a.2.1 8).1==1) (.Lf (some (Go1.cont (i64.wrap (a.1-1),(Zb (Zcx (Zb a.2.1 8).2).2 8).2,x21,PUnit.unit)))) (.br ((Zb a.2.1 8).1==2) (.Lf (some (Go1.cont (i64.wrap (a.1-1),(Zb a.2.1 8).2,a.2.2.1++[251],PUnit.unit)))) (.Lf (some (Go1.cont (i64.wrap (a.1-1),(bif (Zb a.2.1 8).1==3 then (Zcx (Zb (Zb a.2.1 8).2 16).2).2.1 else x81.1,bif (Zb a.2.1 8).1==3 then (Zcx (Zb (Zb a.2.1 8).2 16).2).2.2 else x81.2),bif (Zb a.2.1 8).1==3 then x30 else x40,PUnit.unit))))))) (.Lf none)) (.Lf none)) (.Lf none)) (.Lf none)) (.Lf none)) (.Lf none)) (.Lf none)) (.Lf none)) (.Lf none)) (.Lf none)) (.Lf none)) (.Lf none)) (.Lf none)) (.Lf none)) (.Lf none)) (.Lf none)) (.Lf none)) (.Lf none)) (.Lf none)) (.Lf (some (Go1.brk (a.1,a.2.1,a.2.2.1,PUnit.unit))))
def ZnW:Ora:=Zbo false ZA9 ZcL (λa=>400)
theorem ZtH:Za3 (envX prog [(68,Zcn),(71,Zwv),(119,ZgD)] [] 9511883889056940159 8) (.block 0 (.loop (Z2 Tryz.f124.body 0))) ZnW:=
 loopP ⟨ZaT,ZkR,ZeK,Tv⟩
def Zf4 (s:List Int×Int) (n:Int):RT (Option (List Int×List Int×Int)):=
 let x1:QT26:=((Zb s (i64.wrap (n+1))).1,(Zb s (i64.wrap (n+1))).2,[],())
 let x2:=runF false ZcL (λa=>400) x1
 let x3:(List Int×Int)×List Int×PUnit:=(getO (false,x1) x2).2.2
 .br (Zh s (i64.wrap (n+1))) (.br (okB x2) (.Lf (some ((x3.2.1,x3.1)))) (.Lf none)) (.Lf none)
def ZbS (s:List Int×Int) (n:Int):List Int×List Int×Int:=getO (Zjm.Df,Zjn.Df) (Zf4 s n).val
def Zf5 (s:List Int×Int) (n:Int):Bool:=okB (Zf4 s n).val
def ZnX:En:=boxE Zjn Zqm Zjm (λa=>some (Zf5 a.1 a.2)) (λa=>ZbS a.1 a.2)
theorem ZnV:Za prog 124 ZnX:=
 Zb8 (P:=prog) (n:=9511883889056940159) (k:=8) (l:=[(68,Zcn),(71,Zwv),(119,ZgD)]) (ol:=[(0,ZnW)]) ⟨ZaT,ZkR,ZeK,Tv⟩ Tryz.func124 rfl (by kernel_rfl) Tryz.call124 ⟨ZtH,Tv⟩ (rb:=Zjn) (ts:=Zqm) (rs:=Zjm) (t:=λa=>Zf4 a.1 a.2) (λa=>by kernel_rfl)
abbrev ZtL:R:=R.Pq (R.sl (R.int i64)) (R.int i64)
abbrev ZEn:List Sh:=[]
abbrev ZtK:Rs:=Rs.one (Sh.agg (R.Pq (R.int i64) (R.Pq rcRG (R.Pq (R.int i64) (R.Pq (R.int u8) (R.Pq (R.int u8) (R.Pq R.bool rcCE)))))))
def ZM0:LS:={n:=50,Sl:=[(0,.fix (A.loc 0 0)),(2,.fix (A.loc 1 0)),(3,.fix (A.loc 2 0)),(4,.tip 0),(5,.code (Sh.one (R.int i64)))],Bx:=[[.many (R.Pq (R.sl (R.int i64)) (R.int i64))],[.many (R.Pq (R.int i64) (R.Pq rcRG (R.Pq (R.int i64) (R.Pq (R.int u8) (R.Pq (R.int u8) (R.Pq R.bool rcCE))))))],[.many (R.Pq (R.int i64) (R.Pq rcRG (R.Pq (R.int i64) (R.Pq (R.int u8) (R.Pq (R.int u8) (R.Pq R.bool rcCE))))))]],Sg:=[⟨R.Pq (R.int u16) (R.int u8),75,true⟩]}
def ZeM (a:QT18):RT (Option (Go1 (QT18))):=
 let x1:=Zf (Zb a.2.1 6).1 (List.length [36,60,52,44,56,32])
 let x2:= !x1
 let x3:List Int:=[(Zac (Zb a.2.1 6).2).1,251,201]
 let x4:=smB x3
 let x5:List (Int×Int):=a.2.2.2.2.1++Stg.l (newG Zgw Zgx (Zpe (u16.wrap (R.get (R.int i64) [36,60,52,44,56,32] (Zb a.2.1 6).1)) x3))
 let x6:= !Zh a.2.1 6||(x2||(!ZbT (Zb a.2.1 6).2||(!x4||Nat.ble (List.length x5) most)))
 let x7:= !x6
 let x8:= !Zh a.2.1 6||(x2||(!ZbT (Zb a.2.1 6).2||x4))
 let x9:= !x8
 let x10:= !Zh a.2.1 6||(x2||ZbT (Zb a.2.1 6).2)
 let x11:= !x10
 let x12:= !Zh a.2.1 6||x1
 .br (decide (a.1>0)) (.br (x7||(x9||(x11||(!x12||Zh a.2.1 6)))) (.br (x7||(x9||(x11||x12))) (.br (x7||(x9||x10)) (.br (x7||x8) (.br (x6) (.Lf (some (Go1.cont (i64.wrap (a.1-1),(Zac (Zb a.2.1 6).2).2,a.2.2.1,a.2.2.2.1,x5,PUnit.unit)))) (.Lf none)) (.Lf none)) (.Lf none)) (.Lf none)) (.Lf none)) (.Lf (some (Go1.brk (a.1,a.2.1,a.2.2.1,a.2.2.2.1,a.2.2.2.2.1,PUnit.unit))))
def Zww:Ora:=Zbo false ZM0 ZeM (λa=>400)
theorem ZBi:Za3 (envX prog [(59,ZrK),(68,Zcn),(71,Zwv),(93,Zrz),(119,ZgD),(122,ZMW),(123,ZU2),(124,ZnX)] [] 63 8) (.block 0 (.loop (Z2 Tryz.f66.body 0))) Zww:=
 loopP ⟨ZpU,ZaT,ZkR,ZlG,ZeK,ZEm,ZMO,ZnV,Tv⟩
def Zn8 (s:List Int×Int):RT (Option (BRDT×List Int×Int)):=
 let x1:=(Zb (Zb (Zb (nMap (ZaJ s).2).2 3).2 4).2 6).1==0
 let x2:= !x1
 let x3:List Int×Int:=(Zb (Zb (Zb (nMap (ZaJ s).2).2 3).2 4).2 6).2
 let x4:=Zf6 x3
 let x5:=Zcx x3
 let x6:=x5.2
 let x7:=Zcx x6
 let x8:=x7.2
 let x9:List Int×Int:=(bif x1 then x8.1 else x3.1,bif x1 then x8.2 else x3.2)
 let x10:=Zf5 x9 12
 let x11:=ZbS x9 12
 let x12:=x11.1
 let x13:=x11.2
 let x14:=Zb x13 4
 let x15:QT18:=(x14.1,x14.2,(0,[],0,0,0,false,[]),((ZaJ s).1,(nMap (ZaJ s).2).1,(Zb (nMap (ZaJ s).2).2 3).1,bif x1 then x5.1 else 0,bif x1 then x7.1 else 4,(Zb (Zb (nMap (ZaJ s).2).2 3).2 4).1==0,[]),Stg.l (newG Zgw Zgx (Zpe 0 x12)),())
 let x16:=runF false ZeM (λa=>400) x15
 let x17:(List Int×Int)×BRDT×BRDT×List (Int×Int)×PUnit:=(getO (false,x15) x16).2.2
 let x18:=x17.2.2
 let x19:=x18.2.1
 let x20:=x18.1
 let x21:=x20.2
 let x22:=x21.2
 let x23:=x22.2
 let x24:=x23.2
 .br (!Zn6 s||(!ZHa (ZaJ s).2||(!Zh (nMap (ZaJ s).2).2 3||Zh (Zb (nMap (ZaJ s).2).2 3).2 4))) (.br (!Zn6 s||(!ZHa (ZaJ s).2||Zh (nMap (ZaJ s).2).2 3)) (.br (!Zn6 s||ZHa (ZaJ s).2) (.br (Zn6 s) (.br (Zh (Zb (Zb (nMap (ZaJ s).2).2 3).2 4).2 6) (.br (x2||(!x4||Zf6 x6)) (.br (x2||x4) (.br (!x10||smB x12) (.br (x10) (.br (Zh x13 4) (.br (okB x16) (.br (smC x19) (.Lf (some (((x20.1,x21.1,x22.1,x23.1,x24.1,x24.2.1,Cells.normX x19),x17.1)))) (.Lf none)) (.Lf none)) (.Lf none)) (.Lf none)) (.Lf none)) (.Lf none)) (.Lf none)) (.Lf none)) (.Lf none)) (.Lf none)) (.Lf none)) (.Lf none)
def Zco (s:List Int×Int):BRDT×List Int×Int:=getO (ZtK.Df,ZtL.Df) (Zn8 s).val
def Zn9 (s:List Int×Int):Bool:=okB (Zn8 s).val
def ZM1:En:=boxE ZtL ZEn ZtK (λa=>some (Zn9 a.1)) (λa=>Zco a.1)
theorem ZMY:Za prog 66 ZM1:=
 Zb8 (P:=prog) (n:=63) (k:=8) (l:=[(59,ZrK),(68,Zcn),(71,Zwv),(93,Zrz),(119,ZgD),(122,ZMW),(123,ZU2),(124,ZnX)]) (ol:=[(0,Zww)]) ⟨ZpU,ZaT,ZkR,ZlG,ZeK,ZEm,ZMO,ZnV,Tv⟩ Tryz.func66 rfl (by kernel_rfl) Tryz.call66 ⟨ZBi,Tv⟩ (rb:=ZtL) (ts:=ZEn) (rs:=ZtK) (t:=λa=>Zn8 a.1) (λa=>by kernel_rfl)
abbrev ZtJ:R:=R.Pq (R.sl (R.int i64)) (R.int i64)
abbrev ZEk:List Sh:=[]
abbrev ZtI:Rs:=Rs.one (Sh.agg Zfv)
def Zn4 (s:List Int×Int):RT (Option (INPT×List Int×Int)):=
 let x1:=decide ((Zb s 64).1<30)||(decide ((Zb s 64).1<36)||(decide ((Zb s 64).1<40)||(!decide ((Zb s 64).1<46)||Zh (Zb s 64).2 256)))
 let x2:= !x1
 let x3:=decide ((Zb s 64).1<30)||(decide ((Zb s 64).1<36)||(decide ((Zb s 64).1<40)||(decide ((Zb s 64).1<46)||(decide ((Zb s 64).1<50)||(decide ((Zb s 64).1<53)||(decide ((Zb s 64).1<55)||((Zb s 64).1==55||(!decide ((Zb s 64).1<60)||ZbT (Zb s 64).2))))))))
 let x4:= !x3
 let x5:= !Za9 (Z8 (Z8 (Z8 (Z8 (Zb s 64).2).2).2).2).2
 let x6:List Int×Int:=(Z8 (Z8 (Z8 (Z8 (Z8 (Zb s 64).2).2).2).2).2).2
 let x7:=Zh x6 256
 let x8:=Zb x6 256
 let x9:=x8.2
 let x10:=decide ((Zb s 64).1<30)||(decide ((Zb s 64).1<36)||(decide ((Zb s 64).1<40)||(decide ((Zb s 64).1<46)||(decide ((Zb s 64).1<50)||(decide ((Zb s 64).1<53)||(decide ((Zb s 64).1<55)||((Zb s 64).1==55||(decide ((Zb s 64).1<60)||(!Za9 (Zb s 64).2||(!Za9 (Z8 (Zb s 64).2).2||(!Za9 (Z8 (Z8 (Zb s 64).2).2).2||(!Za9 (Z8 (Z8 (Z8 (Zb s 64).2).2).2).2||(x5||(!x7||Zh x9 256))))))))))))))
 let x11:= !x10
 let x12:=decide ((Zb s 64).1<30)||(decide ((Zb s 64).1<36)||(decide ((Zb s 64).1<40)||(decide ((Zb s 64).1<46)||(decide ((Zb s 64).1<50)||(decide ((Zb s 64).1<53)||(decide ((Zb s 64).1<55)||((Zb s 64).1==55||(decide ((Zb s 64).1<60)||(!Za9 (Zb s 64).2||(!Za9 (Z8 (Zb s 64).2).2||(!Za9 (Z8 (Z8 (Zb s 64).2).2).2||(!Za9 (Z8 (Z8 (Z8 (Zb s 64).2).2).2).2||(x5||x7)))))))))))))
 let x13:= !x12
 let x14:=decide ((Zb s 64).1<30)||(decide ((Zb s 64).1<36)||(decide ((Zb s 64).1<40)||(decide ((Zb s 64).1<46)||(decide ((Zb s 64).1<50)||(decide ((Zb s 64).1<53)||(decide ((Zb s 64).1<55)||((Zb s 64).1==55||(decide ((Zb s 64).1<60)||(!Za9 (Zb s 64).2||(!Za9 (Z8 (Zb s 64).2).2||(!Za9 (Z8 (Z8 (Zb s 64).2).2).2||(!Za9 (Z8 (Z8 (Z8 (Zb s 64).2).2).2).2||Za9 (Z8 (Z8 (Z8 (Z8 (Zb s 64).2).2).2).2).2))))))))))))
 let x15:= !x14
 let x16:=decide ((Zb s 64).1<30)||(decide ((Zb s 64).1<36)||(decide ((Zb s 64).1<40)||(decide ((Zb s 64).1<46)||(decide ((Zb s 64).1<50)||(decide ((Zb s 64).1<53)||(decide ((Zb s 64).1<55)||((Zb s 64).1==55||(decide ((Zb s 64).1<60)||(!Za9 (Zb s 64).2||(!Za9 (Z8 (Zb s 64).2).2||(!Za9 (Z8 (Z8 (Zb s 64).2).2).2||Za9 (Z8 (Z8 (Z8 (Zb s 64).2).2).2).2)))))))))))
 let x17:= !x16
 let x18:=decide ((Zb s 64).1<30)||(decide ((Zb s 64).1<36)||(decide ((Zb s 64).1<40)||(decide ((Zb s 64).1<46)||(decide ((Zb s 64).1<50)||(decide ((Zb s 64).1<53)||(decide ((Zb s 64).1<55)||((Zb s 64).1==55||(decide ((Zb s 64).1<60)||(!Za9 (Zb s 64).2||(!Za9 (Z8 (Zb s 64).2).2||Za9 (Z8 (Z8 (Zb s 64).2).2).2))))))))))
 let x19:= !x18
 let x20:=decide ((Zb s 64).1<30)||(decide ((Zb s 64).1<36)||(decide ((Zb s 64).1<40)||(decide ((Zb s 64).1<46)||(decide ((Zb s 64).1<50)||(decide ((Zb s 64).1<53)||(decide ((Zb s 64).1<55)||((Zb s 64).1==55||(decide ((Zb s 64).1<60)||(!Za9 (Zb s 64).2||Za9 (Z8 (Zb s 64).2).2)))))))))
 let x21:=Zb x9 256
 let x22:=x21.2
 .br (Zh s 64) (.br (x2||(x4||(x11||(x13||(x15||(x17||(x19||(!x20||(decide ((Zb s 64).1<30)||(decide ((Zb s 64).1<36)||(decide ((Zb s 64).1<40)||(decide ((Zb s 64).1<46)||(decide ((Zb s 64).1<50)||(decide ((Zb s 64).1<53)||(decide ((Zb s 64).1<55)||((Zb s 64).1==55||(decide ((Zb s 64).1<60)||Za9 (Zb s 64).2))))))))))))))))) (.br (x2||(x4||(x11||(x13||(x15||(x17||(x19||x20))))))) (.br (x2||(x4||(x11||(x13||(x15||(x17||x18)))))) (.br (x2||(x4||(x11||(x13||(x15||x16))))) (.br (x2||(x4||(x11||(x13||x14)))) (.br (x2||(x4||(x11||x12))) (.br (x2||(x4||x10)) (.br (x2||x3) (.br (x1) (.Lf (some (((bif decide ((Zb s 64).1<30) then ZG.1 else !decide ((Zb s 64).1<36)&&bif decide ((Zb s 64).1<40) then ZG.1 else bif decide ((Zb s 64).1<46) then ZG.1 else bif decide ((Zb s 64).1<50) then ZG.1 else bif decide ((Zb s 64).1<53) then ZG.1 else bif decide ((Zb s 64).1<55) then ZG.1 else bif (Zb s 64).1==55 then ZG.1 else bif decide ((Zb s 64).1<60) then ZG.1 else (Z8 (Zb s 64).2).1,bif decide ((Zb s 64).1<30) then ZG.2.1 else bif decide ((Zb s 64).1<36) then ZG.2.1 else decide ((Zb s 64).1<40)||bif decide ((Zb s 64).1<46) then ZG.2.1 else bif decide ((Zb s 64).1<50) then ZG.2.1 else bif decide ((Zb s 64).1<53) then ZG.2.1 else bif decide ((Zb s 64).1<55) then ZG.2.1 else bif (Zb s 64).1==55 then ZG.2.1 else bif decide ((Zb s 64).1<60) then ZG.2.1 else (Z8 (Z8 (Zb s 64).2).2).1,bif decide ((Zb s 64).1<30) then ZG.2.2.1 else bif decide ((Zb s 64).1<36) then ZG.2.2.1 else bif decide ((Zb s 64).1<40) then ZG.2.2.1 else bif decide ((Zb s 64).1<46) then ZG.2.2.1 else bif decide ((Zb s 64).1<50) then ZG.2.2.1 else bif decide ((Zb s 64).1<53) then ZG.2.2.1 else bif decide ((Zb s 64).1<55) then ZG.2.2.1 else (Zb s 64).1==55||decide ((Zb s 64).1<60)&&ZG.2.2.1,bif decide ((Zb s 64).1<30) then ZG.2.2.2.1 else bif decide ((Zb s 64).1<36) then ZG.2.2.2.1 else bif decide ((Zb s 64).1<40) then ZG.2.2.2.1 else bif decide ((Zb s 64).1<46) then ZG.2.2.2.1 else bif decide ((Zb s 64).1<50) then ZG.2.2.2.1 else bif decide ((Zb s 64).1<53) then (Zb s 64).1==51 else bif decide ((Zb s 64).1<55) then ZG.2.2.2.1 else bif (Zb s 64).1==55 then ZG.2.2.2.1 else bif decide ((Zb s 64).1<60) then ZG.2.2.2.1 else (Z8 (Z8 (Z8 (Zb s 64).2).2).2).1,bif decide ((Zb s 64).1<30) then ZG.2.2.2.2.1 else bif decide ((Zb s 64).1<36) then ZG.2.2.2.2.1 else bif decide ((Zb s 64).1<40) then ZG.2.2.2.2.1 else bif decide ((Zb s 64).1<46) then ZG.2.2.2.2.1 else bif decide ((Zb s 64).1<50) then ZG.2.2.2.2.1 else bif decide ((Zb s 64).1<53) then ZG.2.2.2.2.1 else decide ((Zb s 64).1<55)||bif (Zb s 64).1==55 then ZG.2.2.2.2.1 else decide ((Zb s 64).1<60)&&ZG.2.2.2.2.1,bif decide ((Zb s 64).1<30) then ZG.2.2.2.2.2.1 else bif decide ((Zb s 64).1<36) then ZG.2.2.2.2.2.1 else bif decide ((Zb s 64).1<40) then ZG.2.2.2.2.2.1 else bif decide ((Zb s 64).1<46) then ZG.2.2.2.2.2.1 else bif decide ((Zb s 64).1<50) then Int.tmod (Zb s 64).1 2==0 else bif decide ((Zb s 64).1<53) then ZG.2.2.2.2.2.1 else bif decide ((Zb s 64).1<55) then ZG.2.2.2.2.2.1 else bif (Zb s 64).1==55 then ZG.2.2.2.2.2.1 else bif decide ((Zb s 64).1<60) then ZG.2.2.2.2.2.1 else (Z8 (Z8 (Z8 (Z8 (Zb s 64).2).2).2).2).1,bif decide ((Zb s 64).1<30) then ZG.2.2.2.2.2.2.1 else bif decide ((Zb s 64).1<36) then ZG.2.2.2.2.2.2.1 else bif decide ((Zb s 64).1<40) then ZG.2.2.2.2.2.2.1 else bif decide ((Zb s 64).1<46) then ZG.2.2.2.2.2.2.1 else bif decide ((Zb s 64).1<50) then Int.tmod (Zb s 64).1 2==1 else bif decide ((Zb s 64).1<53) then ZG.2.2.2.2.2.2.1 else bif decide ((Zb s 64).1<55) then ZG.2.2.2.2.2.2.1 else bif (Zb s 64).1==55 then ZG.2.2.2.2.2.2.1 else bif decide ((Zb s 64).1<60) then ZG.2.2.2.2.2.2.1 else (Z8 (Z8 (Z8 (Z8 (Z8 (Zb s 64).2).2).2).2).2).1,bif decide ((Zb s 64).1<30) then ZG.2.2.2.2.2.2.2.1 else bif decide ((Zb s 64).1<36) then ZG.2.2.2.2.2.2.2.1 else bif decide ((Zb s 64).1<40) then ZG.2.2.2.2.2.2.2.1 else bif decide ((Zb s 64).1<46) then ZG.2.2.2.2.2.2.2.1 else bif decide ((Zb s 64).1<50) then ZG.2.2.2.2.2.2.2.1 else decide ((Zb s 64).1<53)||bif decide ((Zb s 64).1<55) then ZG.2.2.2.2.2.2.2.1 else bif (Zb s 64).1==55 then ZG.2.2.2.2.2.2.2.1 else decide ((Zb s 64).1<60)&&ZG.2.2.2.2.2.2.2.1,bif decide ((Zb s 64).1<30) then ZG.2.2.2.2.2.2.2.2.1 else bif decide ((Zb s 64).1<36) then ZG.2.2.2.2.2.2.2.2.1 else bif decide ((Zb s 64).1<40) then ZG.2.2.2.2.2.2.2.2.1 else bif decide ((Zb s 64).1<46) then u8.wrap (Zb (Zb s 64).2 256).1 else bif decide ((Zb s 64).1<50) then ZG.2.2.2.2.2.2.2.2.1 else bif decide ((Zb s 64).1<53) then ZG.2.2.2.2.2.2.2.2.1 else bif decide ((Zb s 64).1<55) then ZG.2.2.2.2.2.2.2.2.1 else bif (Zb s 64).1==55 then ZG.2.2.2.2.2.2.2.2.1 else bif decide ((Zb s 64).1<60) then 1 else u8.wrap x8.1,bif decide ((Zb s 64).1<30) then u8.wrap (Zb s 64).1 else bif decide ((Zb s 64).1<36) then ZG.2.2.2.2.2.2.2.2.2 else bif decide ((Zb s 64).1<40) then ZG.2.2.2.2.2.2.2.2.2 else bif decide ((Zb s 64).1<46) then ZG.2.2.2.2.2.2.2.2.2 else bif decide ((Zb s 64).1<50) then ZG.2.2.2.2.2.2.2.2.2 else bif decide ((Zb s 64).1<53) then ZG.2.2.2.2.2.2.2.2.2 else bif decide ((Zb s 64).1<55) then ZG.2.2.2.2.2.2.2.2.2 else bif (Zb s 64).1==55 then ZG.2.2.2.2.2.2.2.2.2 else bif decide ((Zb s 64).1<60) then (Zac (Zb s 64).2).1 else u8.wrap x21.1),bif decide ((Zb s 64).1<30) then (Zb s 64).2.1 else bif decide ((Zb s 64).1<36) then (Zb s 64).2.1 else bif decide ((Zb s 64).1<40) then (Zb s 64).2.1 else bif decide ((Zb s 64).1<46) then (Zb (Zb s 64).2 256).2.1 else bif decide ((Zb s 64).1<50) then (Zb s 64).2.1 else bif decide ((Zb s 64).1<53) then (Zb s 64).2.1 else bif decide ((Zb s 64).1<55) then (Zb s 64).2.1 else bif (Zb s 64).1==55 then (Zb s 64).2.1 else bif decide ((Zb s 64).1<60) then (Zac (Zb s 64).2).2.1 else x22.1,bif decide ((Zb s 64).1<30) then (Zb s 64).2.2 else bif decide ((Zb s 64).1<36) then (Zb s 64).2.2 else bif decide ((Zb s 64).1<40) then (Zb s 64).2.2 else bif decide ((Zb s 64).1<46) then (Zb (Zb s 64).2 256).2.2 else bif decide ((Zb s 64).1<50) then (Zb s 64).2.2 else bif decide ((Zb s 64).1<53) then (Zb s 64).2.2 else bif decide ((Zb s 64).1<55) then (Zb s 64).2.2 else bif (Zb s 64).1==55 then (Zb s 64).2.2 else bif decide ((Zb s 64).1<60) then (Zac (Zb s 64).2).2.2 else x22.2)))) (.Lf none)) (.Lf none)) (.Lf none)) (.Lf none)) (.Lf none)) (.Lf none)) (.Lf none)) (.Lf none)) (.Lf none)) (.Lf none)
def Zdh (s:List Int×Int):INPT×List Int×Int:=getO (ZtI.Df,ZtJ.Df) (Zn4 s).val
def Zhp (s:List Int×Int):Bool:=okB (Zn4 s).val
def Zn5:En:=boxE ZtJ ZEk ZtI (λa=>some (Zhp a.1)) (λa=>Zdh a.1)
theorem Zn3:Za prog 62 Zn5:=
 Zb8 (P:=prog) (n:=5036105318265824215071) (k:=8) (l:=[(68,Zcn),(69,ZSB),(118,ZRr),(119,ZgD)]) (ol:=[]) ⟨ZaT,ZQy,ZOx,ZeK,Tv⟩ Tryz.func62 rfl (by kernel_rfl) Tryz.call62 trivial (rb:=ZtJ) (ts:=ZEk) (rs:=ZtI) (t:=λa=>Zn4 a.1) (λa=>by kernel_rfl)
abbrev Zn2:R:=R.Pq (R.sl (R.int i64)) (R.int i64)
abbrev Zws:List Sh:=[Sh.one (R.int i64)]
abbrev Zn1:Rs:=Rs.one (Sh.one (R.sl Zfv))
def ZHe:LS:={n:=39,Sl:=[(0,.fix (A.loc 0 0)),(5,.tip 0),(6,.code (Sh.one (R.int i64))),(7,.fix (A.loc 1 0)),(8,.code (Sh.one (R.int i64)))],Bx:=[[.many (R.Pq (R.sl (R.int i64)) (R.int i64))],[.many Zfv]],Sg:=[⟨Zfv,122,true⟩]}
def Zdz (a:QT17):RT (Option (Go1 (QT17))):=
 let x1:List INPT:=a.2.2.2.2.1++[a.2.2.2.1]
 .br (decide (a.2.1>=0)&&decide (iN (List.length a.2.2.2.2.1)<a.1)) (.br (Nat.ble (List.length x1) most) (.Lf (some (Go1.cont (a.1,i64.wrap (a.2.1-1),a.2.2.1,a.2.2.2.1,x1,PUnit.unit)))) (.Lf none)) (.Lf (some (Go1.brk (a.1,a.2.1,a.2.2.1,a.2.2.2.1,a.2.2.2.2.1,PUnit.unit))))
def ZgE:Ora:=Zbo false ZHe Zdz (λa=>400)
theorem ZjY:Za3 (envX prog [(62,Zn5),(68,Zcn)] [] 511 8) (.block 2 (.loop (Z2 Tryz.f125.body 2))) ZgE:=
 loopP ⟨Zn3,ZaT,Tv⟩
def ZHd:LS:={n:=39,Sl:=[(0,.fix (A.loc 0 0)),(5,.tip 0),(6,.code (Sh.one (R.int i64)))],Bx:=[[.many (R.Pq (R.sl (R.int i64)) (R.int i64))]],Sg:=[⟨Zfv,122,true⟩]}
def ZeL (a:QT25):RT (Option (Go1 (QT25))):=
 let x1:= !Zh (Zdh a.2.1).2 4||Zh (Zb (Zdh a.2.1).2 4).2 5
 let x2:= !x1
 let x3:QT17:=(a.1,i64.wrap ((Zb (Zdh a.2.1).2 4).1*(Zb (Zb (Zdh a.2.1).2 4).2 5).1),(Zb (Zb (Zdh a.2.1).2 4).2 5).2,(Zdh a.2.1).1,a.2.2.1,())
 let x4:=runF false Zdz (λa_1=>400) x3
 let x5:QT17:=(getO (false,x3) x4).2
 let x6:=x5.2.2
 .br (decide (iN (List.length a.2.2.1)<a.1)) (.br (!Zhp a.2.1||(x2||(!Zh (Zdh a.2.1).2 4||okB x4))) (.br (!Zhp a.2.1||(x2||Zh (Zdh a.2.1).2 4)) (.br (!Zhp a.2.1||x1) (.br (Zhp a.2.1) (.Lf (some (Go1.cont (x5.1,x6.1,x6.2.2.1,PUnit.unit)))) (.Lf none)) (.Lf none)) (.Lf none)) (.Lf none)) (.Lf (some (Go1.brk (a.1,a.2.1,a.2.2.1,PUnit.unit))))
def Zqn:Ora:=Zbo false ZHd ZeL (λa=>400)
theorem Zwt:Za3 (envX prog [(62,Zn5),(68,Zcn)] [(2,ZgE)] 511 8) (.block 0 (.loop (Z2 Tryz.f125.body 0))) Zqn:=
 Zip (Zbt (l:=[(62,Zn5),(68,Zcn)]) ⟨Zn3,ZaT,Tv⟩ [(2,ZgE)] 511 8) (Zhr (by kernel_rfl) (by kernel_rfl) ⟨ZjY,Tv⟩) (λa=>by kernel_rfl)
def Zij (s:List Int×Int) (n:Int):RT (Option (List INPT×List Int×Int)):=
 let x1:QT25:=((Zb s (i64.wrap (n+1))).1,(Zb s (i64.wrap (n+1))).2,[],())
 let x2:=runF false ZeL (λa=>400) x1
 let x3:(List Int×Int)×List INPT×PUnit:=(getO (false,x1) x2).2.2
 .br (Zh s (i64.wrap (n+1))) (.br (okB x2) (.Lf (some ((x3.2.1,x3.1)))) (.Lf none)) (.Lf none)
def Z3 (s:List Int×Int) (n:Int):List INPT×List Int×Int:=getO (Zn1.Df,Zn2.Df) (Zij s n).val
def Zik (s:List Int×Int) (n:Int):Bool:=okB (Zij s n).val
def ZEj:En:=boxE Zn2 Zws Zn1 (λa=>some (Zik a.1 a.2)) (λa=>Z3 a.1 a.2)
theorem ZHb:Za prog 125 ZEj:=
 Zb8 (P:=prog) (n:=511) (k:=8) (l:=[(62,Zn5),(68,Zcn)]) (ol:=[(2,ZgE),(0,Zqn)]) ⟨Zn3,ZaT,Tv⟩ Tryz.func125 rfl (by kernel_rfl) Tryz.call125 ⟨ZjY,Zwt,Tv⟩ (rb:=Zn2) (ts:=Zws) (rs:=Zn1) (t:=λa=>Zij a.1 a.2) (λa=>by kernel_rfl)
variable {s:List Int×Int} {k:Int}
theorem NB.up {j:Int} (h:NB s k) (hj:k<=j):NB s j:=⟨h.1,by have:=h.2;omega⟩
theorem Zil (h:NB s k) (hk:k<=1000000):Za9 s=true/\NB (Z8 s).2 (k+1):=by obtain⟨c1,b,_⟩:=Zv h hk 2 (by decide) (by decide);simp only[Za9,Z8,ZEl,RT.val,c1,Yb,okB,getO];exact⟨trivial,b⟩
theorem Zft {a b:Nat} (h:a<=b):Nat.ble a b=true:=by rw[YF];exact h
theorem ZA6 (h:NB s k) (hk:k<=500000) (n:Nat) (hn:n<=100):
  Zc3 s (n:Int)=true/\NB (Za4 s (n:Int)).2 (k+1+5*n)/\(Za4 s (n:Int)).1.length<=n:=by
 have hms:=mst;have w0:IntKind.wrap .i64 ((n:Int)+1)=(n:Int)+1:=wrap_i64 _ (by omega) (by omega);obtain⟨c1,b1,d0,d1⟩:=Zv h (by omega) ((n:Int)+1) (by omega) (by omega);obtain⟨L,N,hs1⟩:∃L N,(L,N)=(Zb s ((n:Int)+1)).2:=⟨_,_,rfl⟩;obtain⟨q,hq⟩:∃q:Nat,(Zb s ((n:Int)+1)).1=(q:Int):=⟨_,(Yao d0).symm⟩;rw[<-hs1] at b1;obtain⟨r,hr,h1,L',N',o,hs',ho,hR⟩:=ZO (fl:=false) (t:=ZdS) (fuel:=λa=>400)
  (λa=>∃(i:Nat) (L:List Int) (N:Int) (o:List Z0),i<=q/\NB (L,N) (k+1+5*((q-i:Nat):Int))/\o.length<=q-i/\a=((i:Int),(L,N),o,()))
  (λa=>Int.toNat a.1) (λr=>r.1=false/\∃(L:List Int) (N:Int) (o:List Z0),NB (L,N) (k+1+5*(q:Int))/\o.length<=q/\r.2=((0:Int),(L,N),o,()))
  (by
   rintro a ⟨i,L,N,o,hi,hs',ho,rfl⟩;cases i with
   |zero=>
    right;left;exact⟨_,by simp only[ZdS,RT.val];rfl,rfl,L,N,o,by simpa using hs',by omega,rfl⟩
   |succ i=>
    left;have d:decide (((i+1:Nat):Int)>0)=true:=YQ (by omega);obtain⟨kw,bw,_⟩:=ZQx hs' (by omega);obtain⟨k1,b1,e0,e1⟩:=Zv bw (by omega) 6 (by decide) (by decide);obtain⟨k2,b2,_⟩:=Zv b1 (by omega) 3 (by decide) (by decide);obtain⟨k3,b3,f0,f1⟩:=Zv b2 (by omega) 5 (by decide) (by decide);have r1:Zf (Zb (Zby (L,N)).2 6).1 6=true:=Zae.2 ⟨e0,e1⟩;have r2:Zf (Zb (Zb (Zb (Zby (L,N)).2 6).2 3).2 5).1 5=true:=Zae.2 ⟨f0,f1⟩;have hb:∀x:Z0,Nat.ble (o++[x]).length most=true:=λx=>Zft (by simp;omega)
    have w:IntKind.wrap .i64 (((i+1:Nat):Int)-1)=(i:Int):=by rw[wrap_i64 _ (by omega) (by omega)];omega
    obtain⟨o',ho'⟩:∃o':List Z0,o'=o++[((Zby (L,N)).1,u16.wrap (if 65535<i64.wrap (i64.wrap (Zby (L,N)).1+R.get (R.int i64) [0,3,15,255,4095,65535] (Zb (Zby (L,N)).2 6).1) then 65535 else i64.wrap (i64.wrap (Zby (L,N)).1+R.get (R.int i64) [0,3,15,255,4095,65535] (Zb (Zby (L,N)).2 6).1)),decide ((Zb (Zb (Zby (L,N)).2 6).2 3).1>0),R.get (R.int i64) [0,0,1,2,5] (Zb (Zb (Zb (Zby (L,N)).2 6).2 3).2 5).1)]:=⟨_,rfl⟩;refine⟨((i:Int),((Zb (Zb (Zb (Zby (L,N)).2 6).2 3).2 5).2.1,(Zb (Zb (Zb (Zby (L,N)).2 6).2 3).2 5).2.2),o',()),?_,⟨i,_,_,o',by omega,b3.up (by omega),by rw[ho'];simp;omega,rfl⟩,by simp only;omega⟩
    simp only[ZdS,RT.val,List.length_cons,List.length_nil,Nat.reduceAdd,d,kw,k1,k2,k3,r1,r2,hb,w,ho',Yb,Yg,Yj,Yk,YJ])
  ((q:Int),(L,N),[],()) ⟨q,L,N,[],Yd _,by simpa using b1,by simp,rfl⟩ (by simp only;omega)
 obtain⟨r1,r2⟩:=r;simp only at h1 hR;subst h1 hR;have hv:(Zf3 s (n:Int)).val=some (o,L',N'):=by simp only[Zf3,RT.val,w0,c1,hq,<-hs1,hr,okB,getO,Yb]
 simp only[Zc3,Za4,hv,okB,getO];exact⟨trivial,hs'.up (by omega),by omega⟩
variable {l:List Cell}
theorem ZV4 (h:l.length<=1000):smC l=true:=Zft (by have:=mst;omega)
theorem ZRG {l:List Int} (h:l.length<=1000):smB l=true:=Zft (by have:=mst;omega)
theorem ZMP (h:NB s k) (hk:k<=400000):ZHa s=true/\NB (nMap s).2 (k+20)/\(nMap s).1.length<=3:=by
 obtain⟨c1,b1,l1⟩:=ZA6 h (by omega) 2 (by omega);have c1:Zc3 s 2=true:=c1;have b1:NB (Za4 s 2).2 (k+1+5*((2:Nat):Int)):=b1;have l1:(Za4 s 2).1.length<=2:=l1;obtain⟨c2,b2,_⟩:=Zv b1 (by omega) 3 (by decide) (by decide);have hs:∀x:Z0,Nat.ble ((Za4 s 2).1++[x]).length most=true:=λx=>Zft (by have:=mst;simp;omega)
 have hg:∀l:List Z0,Stg.l (newG ZeI ZeJ l)=l:=λ_=>rfl
 have hv:(ZMQ s).val=some ((Za4 s 2).1++[(0,65535,true,IntKind.wrap .i64 (Int.tdiv (Zb (Za4 s 2).2 3).1 2))],(Zb (Za4 s 2).2 3).2):=by simp only[ZMQ,RT.val,hg,c1,c2,hs,Yg,Yj,Yk,Yb]
 refine⟨by simp only[ZHa,hv];rfl,?_,?_⟩
 ·simp only[nMap,hv,getO];exact b2.up (by omega)
 ·simp only[nMap,hv,getO];simp;omega
theorem ZA8 (h:NB s k) (hk:k<=300000) (n:Nat) (hn:n<=20):
  Zf5 s (n:Int)=true/\NB (ZbS s (n:Int)).2 (k+1+10*n)/\(ZbS s (n:Int)).1.length<=12*n:=by
 have hms:=mst;have w0:IntKind.wrap .i64 ((n:Int)+1)=(n:Int)+1:=wrap_i64 _ (by omega) (by omega);obtain⟨c1,b1,d0,d1⟩:=Zv h (by omega) ((n:Int)+1) (by omega) (by omega);obtain⟨s1,hs1⟩:∃s1,s1=(Zb s ((n:Int)+1)).2:=⟨_,rfl⟩;obtain⟨q,hq⟩:∃q:Nat,(Zb s ((n:Int)+1)).1=(q:Int):=⟨_,(Yao d0).symm⟩;rw[<-hs1] at b1;obtain⟨r,hr,h1,s',o,hs',ho,hR⟩:=ZO (fl:=false) (t:=ZcL) (fuel:=λa=>400)
  (λa=>∃(i:Nat) (s':List Int×Int) (o:List Int),i<=q/\NB s' (k+1+10*((q-i:Nat):Int))/\o.length<=12*(q-i)/\a=((i:Int),s',o,()))
  (λa=>Int.toNat a.1) (λr=>r.1=false/\∃(s':List Int×Int) (o:List Int),NB s' (k+1+10*(q:Int))/\o.length<=12*q/\r.2=((0:Int),s',o,()))
  (by
   rintro a ⟨i,s',o,hi,hs',ho,rfl⟩;cases i with
   |zero=>
    right;left;exact⟨_,by simp only[ZcL,RT.val];rfl,rfl,s',o,by simpa using hs',by omega,rfl⟩
   |succ i=>
    left;have d:decide (((i+1:Nat):Int)>0)=true:=YQ (by omega);have w:IntKind.wrap .i64 (((i+1:Nat):Int)-1)=(i:Int):=by rw[wrap_i64 _ (by omega) (by omega)];omega
    obtain⟨k0,b0,_⟩:=Zv hs' (by omega) 8 (by decide) (by decide);obtain⟨k1,b1,e0,e1⟩:=Zv b0 (by omega) 4 (by decide) (by decide);obtain⟨k2,b2,_⟩:=Zv b1 (by omega) 256 (by decide) (by decide);obtain⟨k3,b3,f0,f1⟩:=Zv b2 (by omega) 4 (by decide) (by decide);obtain⟨k4,b4,_⟩:=ZkS b0 (by omega);obtain⟨k5,b5,_⟩:=Zv b4 (by omega) 8 (by decide) (by decide);obtain⟨k6,b6,_⟩:=Zv b0 (by omega) 16 (by decide) (by decide);obtain⟨k7,b7,_⟩:=ZkS b6 (by omega);obtain⟨k8,b8,_⟩:=Zjo b0 (by omega);obtain⟨k9,b9,_⟩:=Zv b8 (by omega) 64 (by decide) (by decide);obtain⟨ka,ba,g0,g1⟩:=Zv b9 (by omega) 4 (by decide) (by decide);have r1:Zf (Zb (Zb s' 8).2 4).1 4=true:=Zae.2 ⟨e0,e1⟩;have r2:Zf (Zb (Zb (Zb (Zb s' 8).2 4).2 256).2 4).1 4=true:=Zae.2 ⟨f0,f1⟩;have r3:Zf (Zb (Zb (Zac (Zb s' 8).2).2 64).2 4).1 4=true:=Zae.2 ⟨g0,g1⟩;have hb:∀x:List Int,x.length<=12->Nat.ble (o++x).length most=true:=λx hx=>Zft (by rw[Yc];omega)
    have q1:∀a b c:Int,Nat.ble (o++[a,b,c]).length most=true:=λa b c=>hb _ (by simp)
    have q2:∀a b c d:Int,Nat.ble (o++[a,b,c,d]).length most=true:=λa b c d=>hb _ (by simp)
    have q3:∀a:Int,Nat.ble (o++[a]).length most=true:=λa=>hb _ (by simp)
    have q4:∀a b c d e f g h i j k l:Int,Nat.ble (o++[a,b,c,d,e,f,g,h,i,j,k,l]).length most=true:=λa b c d e f g h i j k l=>hb _ (by simp)
    have hv:∃s2 x,x.length<=12/\NB s2 (k+1+10*((q-i:Nat):Int))/\(ZcL (((i+1:Nat):Int),s',o,())).val=some (Go1.cont ((i:Int),s2,o++x,())):=by
     simp only[ZcL,RT.val,List.length_cons,List.length_nil,Nat.reduceAdd,d,w,k0,k1,k2,k3,k4,k5,k6,k7,k8,k9,ka,r1,r2,r3,q1,q2,q3,q4,Yb,Yg,Yj,Yk,YJ];cases (Zb s' 8).1==0
     ·cases (Zb s' 8).1==1
      ·cases (Zb s' 8).1==2
       ·cases (Zb s' 8).1==3
        ·exact⟨_,[(Zac (Zb s' 8).2).1,IntKind.wrap .u8 (Zb (Zac (Zb s' 8).2).2 64).1,R.get (R.int .u8) [0,0,1,255] (Zb (Zb (Zac (Zb s' 8).2).2 64).2 4).1],by simp,ba.up (by omega),rfl⟩
        ·exact⟨_,[62,IntKind.wrap .u8 (IntKind.wrap .i64 (16+(Zb (Zb s' 8).2 16).1)),211,0,62,(Zcx (Zb (Zb s' 8).2 16).2).1,211,1,62,0,211,1],by simp,b7.up (by omega),rfl⟩
       ·exact⟨_,[251],by simp,b0.up (by omega),rfl⟩
      ·exact⟨_,[62,(Zcx (Zb s' 8).2).1,211,IntKind.wrap .u8 (Zb (Zcx (Zb s' 8).2).2 8).1],by simp,b5.up (by omega),rfl⟩
     ·exact⟨_,[R.get (R.int .u8) [33,49,1,17] (Zb (Zb s' 8).2 4).1,IntKind.wrap .u8 (Zb (Zb (Zb s' 8).2 4).2 256).1,R.get (R.int .u8) [0,0,1,255] (Zb (Zb (Zb (Zb s' 8).2 4).2 256).2 4).1],by simp,b3.up (by omega),rfl⟩
    obtain⟨s2,x,hx,hs2,hv⟩:=hv
    exact⟨_,hv,⟨i,s2,o++x,by omega,hs2,by rw[Yc];omega,rfl⟩,by simp only;omega⟩)
  ((q:Int),s1,[],()) ⟨q,s1,[],Yd _,by simpa using b1,by simp,rfl⟩ (by simp only;omega)
 obtain⟨r1,r2⟩:=r;simp only at h1 hR;subst h1 hR;have hv:(Zf4 s (n:Int)).val=some (o,s'):=by simp only[Zf4,RT.val,w0,c1,hq,<-hs1,hr,okB,getO,Yb]
 simp only[Zf5,ZbS,hv,okB,getO];exact⟨trivial,hs'.up (by omega),by omega⟩
theorem ZwR (t:Int) (b:List Int):(Zpe t b).length<=b.length:=by have:=ZeH (Zol t b b.length);rw[Zok] at this;exact this
theorem ZMT (h:NB s k) (hk:k<=300000):Zhp s=true/\NB (Zdh s).2 (k+20):=by
 obtain⟨c1,b1,_⟩:=Zv h (by omega) 64 (by decide) (by decide);obtain⟨c2,b2,_⟩:=Zv b1 (by omega) 256 (by decide) (by decide);obtain⟨c3,b3,_⟩:=Zjo b1 (by omega);obtain⟨f1,g1⟩:=Zil b1 (by omega);obtain⟨f2,g2⟩:=Zil g1 (by omega);obtain⟨f3,g3⟩:=Zil g2 (by omega);obtain⟨f4,g4⟩:=Zil g3 (by omega);obtain⟨f5,g5⟩:=Zil g4 (by omega);obtain⟨c4,b4,_⟩:=Zv g5 (by omega) 256 (by decide) (by decide);obtain⟨c5,b5,_⟩:=Zv b4 (by omega) 256 (by decide) (by decide);have hv:∃c s',(Zn4 s).val=some (c,s')/\NB s' (k+20):=by
  simp only[Zn4,RT.val,c1,c2,c3,c4,c5,f1,f2,f3,f4,f5,Yb,Yg,Yj,Yk,YJ];cases decide ((Zb s 64).1<30) with
  |true=>exact⟨_,_,rfl,b1.up (by omega)⟩
  |false=>
  cases decide ((Zb s 64).1<36) with
  |true=>exact⟨_,_,rfl,b1.up (by omega)⟩
  |false=>
  cases decide ((Zb s 64).1<40) with
  |true=>exact⟨_,_,rfl,b1.up (by omega)⟩
  |false=>
  cases decide ((Zb s 64).1<46) with
  |true=>exact⟨_,_,rfl,b2.up (by omega)⟩
  |false=>
  cases decide ((Zb s 64).1<50) with
  |true=>exact⟨_,_,rfl,b1.up (by omega)⟩
  |false=>
  cases decide ((Zb s 64).1<53) with
  |true=>exact⟨_,_,rfl,b1.up (by omega)⟩
  |false=>
  cases decide ((Zb s 64).1<55) with
  |true=>exact⟨_,_,rfl,b1.up (by omega)⟩
  |false=>
  cases ((Zb s 64).1==55) with
  |true=>exact⟨_,_,rfl,b1.up (by omega)⟩
  |false=>
  cases decide ((Zb s 64).1<60) with
  |true=>exact⟨_,_,rfl,b3.up (by omega)⟩
  |false=>exact⟨_,_,rfl,b5.up (by omega)⟩
 obtain⟨c,s',hv,h1⟩:=hv;simp only[Zhp,Zdh,hv,okB,getO];exact⟨trivial,h1⟩
theorem ZVg (s:List Int×Int) (z:Int) (c:INPT) (kk:Nat) (hk:kk<300) (o:List INPT) (size:Nat) (ho:o.length<=size) (hz:size<=300):
  ∃k2 o2,runF false Zdz (λ_=>400) ((size:Int),(kk:Int),s,c,o,())=some (false,(size:Int),k2,s,c,o2,())/\o2.length<=size/\o.length<=o2.length/\(o.length<size->o.length<o2.length):=by
 have hms:=mst;obtain⟨r,hr,h1,k2,o2,e1,e2,e3,e4⟩:=ZO (fl:=false) (t:=Zdz) (fuel:=λ_=>400)
  (λa=>∃(j:Nat) (o2:List INPT),j<=kk+1/\o2.length<=size/\o.length<=o2.length/\(j=kk+1\/o.length<o2.length)/\a=((size:Int),(j:Int)-1,s,c,o2,()))
  (λa=>Int.toNat (a.2.1+1)) (λr=>r.1=false/\∃k2 o2,r.2=((size:Int),k2,s,c,o2,())/\o2.length<=size/\o.length<=o2.length/\(o.length<size->o.length<o2.length))
  (by
   rintro a ⟨j,o2,hj,h2,h3,h4,rfl⟩;have w:∀j:Nat,j<=1000->IntKind.wrap .i64 (((j:Nat):Int)-1-1)=(j:Int)-1-1:=λj hj=>wrap_i64 _ (by omega) (by omega)
   by_cases hc:1<=j/\o2.length<size
   ·left;have d1:decide (((j:Nat):Int)-1>=0)=true:=YQ (by omega);have d2:decide (iN o2.length<(size:Int))=true:=YQ (by simp only[iN];omega);have hb:Nat.ble (o2++[c]).length most=true:=Zft (by simp;omega);refine⟨((size:Int),(j:Int)-1-1,s,c,o2++[c],()),?_,⟨j-1,o2++[c],by omega,by simp;omega,by simp;omega,by right;simp;omega,?_⟩,by simp only;omega⟩
    ·simp only[Zdz,RT.val,d1,d2,hb,Y6,Yb,w j (by omega)]
    ·have:((j:Nat):Int)-1=((j-1:Nat):Int):=by omega
     rw[this]
   ·right;left;have d:(decide (((j:Nat):Int)-1>=0)&&decide (iN o2.length<(size:Int)))=false:=by simp only[iN,Yaj,Yac];omega
    exact⟨((size:Int),(j:Int)-1,s,c,o2,()),by simp only[Zdz,RT.val,d,Ye],rfl,_,o2,rfl,h2,h3,λh=>by
     rcases h4 with h4|h4
     ·omega
     ·exact h4⟩)
  ((size:Int),(kk:Int),s,c,o,()) ⟨kk+1,o,Yd _,ho,Yd _,.inl rfl,by
   have:(kk:Int)=((kk+1:Nat):Int)-1:=by omega
   rw[<-this]⟩ (by simp only;omega)
 obtain⟨r1,r2⟩:=r;simp only at h1 e1;subst h1 e1;exact⟨k2,o2,hr,e2,e3,e4⟩
theorem ZHc (h:NB s k) (hk:k<=100000) (n:Nat) (hn:n<=250):
  Zik s (n:Int)=true/\NB (Z3 s (n:Int)).2 (k+1+30*n)/\(Z3 s (n:Int)).1.length<=n:=by
 have hms:=mst;have w0:IntKind.wrap .i64 ((n:Int)+1)=(n:Int)+1:=wrap_i64 _ (by omega) (by omega);obtain⟨c1,b1,d0,d1⟩:=Zv h (by omega) ((n:Int)+1) (by omega) (by omega);obtain⟨s1,hs1⟩:∃s1,s1=(Zb s ((n:Int)+1)).2:=⟨_,rfl⟩;obtain⟨q,hq⟩:∃q:Nat,(Zb s ((n:Int)+1)).1=(q:Int):=⟨_,(Yao d0).symm⟩;rw[<-hs1] at b1;obtain⟨r,hr,h1,s',o,hs',ho,hR⟩:=ZO (fl:=false) (t:=ZeL) (fuel:=λa=>400)
  (λa=>∃(s':List Int×Int) (o:List INPT),NB s' (k+1+30*(o.length:Int))/\o.length<=q/\a=((q:Int),s',o,()))
  (λa=>Int.toNat a.1-a.2.2.1.length) (λr=>r.1=false/\∃(s':List Int×Int) (o:List INPT),NB s' (k+1+30*(q:Int))/\o.length<=q/\r.2=((q:Int),s',o,()))
  (by
   rintro a ⟨s',o,hs',ho,rfl⟩;by_cases hc:o.length<q
   ·left;have d:decide (iN o.length<(q:Int))=true:=YQ (by simp only[iN];omega);obtain⟨i1,g1⟩:=ZMT hs' (by omega);obtain⟨i2,g2,m0,m1⟩:=Zv g1 (by omega) 4 (by decide) (by decide);obtain⟨i3,g3,m2,m3⟩:=Zv g2 (by omega) 5 (by decide) (by decide);obtain⟨x,hx⟩:∃x:Nat,(Zb (Zdh s').2 4).1=(x:Int):=⟨_,(Yao m0).symm⟩;obtain⟨y,hy⟩:∃y:Nat,(Zb (Zb (Zdh s').2 4).2 5).1=(y:Int):=⟨_,(Yao m2).symm⟩;have hxy:x*y<=3*4:=Nat.mul_le_mul (by omega) (by omega);have w:IntKind.wrap .i64 ((x:Int)*(y:Int))=((x*y:Nat):Int):=by rw[show (x:Int)*(y:Int)=((x*y:Nat):Int) by simp,wrap_i64 _ (by omega) (by omega)]
    obtain⟨k2,o2,hr,e2,e3,e4⟩:=ZVg (Zb (Zb (Zdh s').2 4).2 5).2 0 (Zdh s').1 (x*y) (by omega) o q ho (by omega);have e5:=e4 hc;refine⟨((q:Int),(Zb (Zb (Zdh s').2 4).2 5).2,o2,()),?_,⟨_,o2,g3.up (by omega),e2,rfl⟩,by simp only;omega⟩;simp only[ZeL,RT.val,d,i1,i2,i3,hx,hy,w,hr,okB,getO,Yb,Yg,Yj,Yk,YJ]
   ·right;left;have d:decide (iN o.length<(q:Int))=false:=Yak (by simp only[iN];omega)
    exact⟨_,by simp only[ZeL,RT.val,d,Ye],rfl,s',o,hs'.up (by omega),ho,rfl⟩)
  ((q:Int),s1,[],()) ⟨s1,[],by simpa using b1,by simp,rfl⟩ (by simp only[List.length_nil];omega)
 obtain⟨r1,r2⟩:=r;simp only at h1 hR;subst h1 hR;have hv:(Zij s (n:Int)).val=some (o,s'):=by simp only[Zij,RT.val,w0,c1,hq,<-hs1,hr,okB,getO,Yb]
 simp only[Zik,Z3,hv,okB,getO];exact⟨trivial,hs'.up (by omega),by omega⟩
theorem ZMZ (h:NB s k) (hk:k<=10000):
  Zn9 s=true/\NB (Zco s).2 (k+300)/\(∃s1,NB s1 (k+1)/\(Zco s).1.2.1=(nMap s1).1)/\((Zco s).1.1=1\/(Zco s).1.1=2)/\
   (0<=(Zco s).1.2.2.1/\(Zco s).1.2.2.1<=2)/\∃l:List Cell,l.length<=200/\(Zco s).1.2.2.2.2.2.2=normX l:=by
 have hms:=mst;obtain⟨c0,b0,hch⟩:=ZQz h (by omega);obtain⟨c1,b1,l1⟩:=ZMP b0 (by omega);obtain⟨c2,b2,w0,w1⟩:=Zv b1 (by omega) 3 (by decide) (by decide);obtain⟨c3,b3,_⟩:=Zv b2 (by omega) 4 (by decide) (by decide);obtain⟨c4,b4,_⟩:=Zv b3 (by omega) 6 (by decide) (by decide);obtain⟨c5,b5,_⟩:=ZkS b4 (by omega);obtain⟨c6,b6,_⟩:=ZkS b5 (by omega)
 obtain⟨s2,hs2,b7⟩:∃s2,s2=((bif (Zb (Zb (Zb (nMap (ZaJ s).2).2 3).2 4).2 6).1==0 then (Zcx (Zcx (Zb (Zb (Zb (nMap (ZaJ s).2).2 3).2 4).2 6).2).2).2.1 else (Zb (Zb (Zb (nMap (ZaJ s).2).2 3).2 4).2 6).2.1,
   bif (Zb (Zb (Zb (nMap (ZaJ s).2).2 3).2 4).2 6).1==0 then (Zcx (Zcx (Zb (Zb (Zb (nMap (ZaJ s).2).2 3).2 4).2 6).2).2).2.2 else (Zb (Zb (Zb (nMap (ZaJ s).2).2 3).2 4).2 6).2.2):List Int×Int)/\NB s2 (k+30):=by
  refine⟨_,rfl,?_⟩;cases (Zb (Zb (Zb (nMap (ZaJ s).2).2 3).2 4).2 6).1==0
  ·exact b4.up (by omega)
  ·exact b6.up (by omega)
 obtain⟨c8,b8,l8⟩:=ZA8 b7 (by omega) 12 (by omega);have c8:Zf5 s2 12=true:=c8;have b8:NB (ZbS s2 12).2 (k+30+1+10*((12:Nat):Int)):=b8;have l8:(ZbS s2 12).1.length<=12*12:=l8;obtain⟨c9,b9,d0,d1⟩:=Zv b8 (by omega) 4 (by decide) (by decide);have hl:=ZwR 0 (ZbS s2 12).1;obtain⟨q,hq⟩:∃q:Nat,(Zb (ZbS s2 12).2 4).1=(q:Int):=⟨_,(Yao d0).symm⟩;have hg:∀l:List Cell,Stg.l (newG Zgw Zgx l)=l:=λ_=>rfl
 have key:∀x y z:BRDT,∀o:List Cell,o.length<=144->∃s' o',NB s' (k+200)/\o'.length<=200/\
   runF false ZeM (λ_=>400) ((q:Int),(Zb (ZbS s2 12).2 4).2,x,y,o,())=some (false,0,s',x,y,o',()):=by
  intro x y z o ho;obtain⟨r,hr,h1,s',o',g1,g2,g3⟩:=ZO (fl:=false) (t:=ZeM) (fuel:=λ_=>400)
   (λa=>∃(i:Nat) (s':List Int×Int) (o:List Cell),i<=q/\NB s' (k+30+1+10*((12:Nat):Int)+1+4*((q-i:Nat):Int))/\o.length<=144+3*(q-i)/\a=((i:Int),s',x,y,o,()))
   (λa=>Int.toNat a.1) (λr=>r.1=false/\∃s' o',NB s' (k+200)/\o'.length<=200/\r.2=(0,s',x,y,o',()))
   (by
    rintro a ⟨i,s',o,hi,hs',ho,rfl⟩;cases i with
    |zero=>
     right;left;exact⟨_,by simp only[ZeM,RT.val];rfl,rfl,s',o,hs'.up (by omega),by omega,rfl⟩
    |succ i=>
     left;have d:decide (((i+1:Nat):Int)>0)=true:=YQ (by omega);have w:IntKind.wrap .i64 (((i+1:Nat):Int)-1)=(i:Int):=by rw[wrap_i64 _ (by omega) (by omega)];omega
     obtain⟨k0,b0,e0,e1⟩:=Zv hs' (by omega) 6 (by decide) (by decide);obtain⟨k1,b1,_⟩:=Zjo b0 (by omega);have r1:Zf (Zb s' 6).1 6=true:=Zae.2 ⟨e0,e1⟩;have hsb:∀a b c:Int,smB [a,b,c]=true:=λa b c=>ZRG (by simp)
     have hll:=ZwR (IntKind.wrap .u16 (R.get (R.int .i64) [36,60,52,44,56,32] (Zb s' 6).1)) [(Zac (Zb s' 6).2).1,251,201];simp only[List.length_cons,List.length_nil] at hll;have hb:Nat.ble (o++Zpe (IntKind.wrap .u16 (R.get (R.int .i64) [36,60,52,44,56,32] (Zb s' 6).1)) [(Zac (Zb s' 6).2).1,251,201]).length most=true:=Zft (by rw[Yc];omega);refine⟨((i:Int),(Zac (Zb s' 6).2).2,x,y,o++Zpe (IntKind.wrap .u16 (R.get (R.int .i64) [36,60,52,44,56,32] (Zb s' 6).1)) [(Zac (Zb s' 6).2).1,251,201],()),?_,⟨i,_,_,by omega,b1.up (by omega),by rw[Yc];omega,rfl⟩,by simp only;omega⟩
     simp only[ZeM,RT.val,hg,List.length_cons,List.length_nil,Nat.reduceAdd,d,w,k0,k1,r1,hsb,hb,Yb,Yg,Yj,Yk,YJ])
   ((q:Int),(Zb (ZbS s2 12).2 4).2,x,y,o,()) ⟨q,_,o,Yd _,b9.up (by omega),by omega,rfl⟩ (by simp only;omega)
  obtain⟨r1,r2⟩:=r;simp only at h1 g3;subst h1 g3;exact⟨s',o',g1,g2,hr⟩
 obtain⟨s',o',g1,g2,hr⟩:=key (0,[],0,0,0,false,[]) ((ZaJ s).1,(nMap (ZaJ s).2).1,(Zb (nMap (ZaJ s).2).2 3).1,bif (Zb (Zb (Zb (nMap (ZaJ s).2).2 3).2 4).2 6).1==0 then (Zcx (Zb (Zb (Zb (nMap (ZaJ s).2).2 3).2 4).2 6).2).1 else 0,
  bif (Zb (Zb (Zb (nMap (ZaJ s).2).2 3).2 4).2 6).1==0 then (Zcx (Zcx (Zb (Zb (Zb (nMap (ZaJ s).2).2 3).2 4).2 6).2).2).1 else 4,(Zb (Zb (nMap (ZaJ s).2).2 3).2 4).1==0,[]) (0,[],0,0,0,false,[]) (Zpe 0 (ZbS s2 12).1) (by omega)
 have hsc:smC o'=true:=ZV4 (by omega);have hsb:smB (ZbS s2 12).1=true:=ZRG (by omega);have hv:∃p d,(Zn8 s).val=some (((ZaJ s).1,(nMap (ZaJ s).2).1,(Zb (nMap (ZaJ s).2).2 3).1,p,d,(Zb (Zb (nMap (ZaJ s).2).2 3).2 4).1==0,normX o'),s'):=by
  refine⟨bif (Zb (Zb (Zb (nMap (ZaJ s).2).2 3).2 4).2 6).1==0 then (Zcx (Zb (Zb (Zb (nMap (ZaJ s).2).2 3).2 4).2 6).2).1 else 0,
   bif (Zb (Zb (Zb (nMap (ZaJ s).2).2 3).2 4).2 6).1==0 then (Zcx (Zcx (Zb (Zb (Zb (nMap (ZaJ s).2).2 3).2 4).2 6).2).2).1 else 4,?_⟩
  simp only[Zn8,RT.val,hg,<-hs2,c0,c1,c2,c3,c4,c5,c6,c8,c9,hsb,hq,hr,hsc,okB,getO,Yb,Yg,Yj,Yk,YJ]
 obtain⟨p,d,hv⟩:=hv;have e1:Zn9 s=true:=by simp only[Zn9,hv];rfl
 have e2:Zco s=(((ZaJ s).1,(nMap (ZaJ s).2).1,(Zb (nMap (ZaJ s).2).2 3).1,p,d,(Zb (Zb (nMap (ZaJ s).2).2 3).2 4).1==0,normX o'),s'):=by simp only[Zco,hv,getO]
 rw[e2];exact⟨e1,g1.up (by omega),⟨_,b0,rfl⟩,hch,⟨w0,by show (Zb (nMap (ZaJ s).2).2 3).1<=2;omega⟩,o',g2,rfl⟩
theorem ZTb (s:Int) {l:Int} (h:0<=l):vOnC s l=true:=by simp only[vOnC,vOnT,RT.val,YQ h,Yb,okB]
theorem ZqR (s k:Int):ZhC s k=true/\ -1<=ZcZ s k/\ZcZ s k<=7:=by
 obtain⟨r,hr,h0,h1,h2⟩:=ZO (fl:=false) (t:=ZcX) (fuel:=λ_=>9)
  (λa=>∃(i:Nat) (m:Int),i<=8/\ -1<=m/\m<=7/\a=(s,k,m,(i:Int),()))
  (λa=>Int.toNat (8-a.2.2.2.1)) (λr=>r.1=false/\ -1<=r.2.2.2.1/\r.2.2.2.1<=7)
  (by
   rintro a ⟨i,m,hi,h1,h2,rfl⟩;by_cases hlt:i<8
   ·left;have d:decide ((i:Int)<8)=true:=YQ (by omega);have w:IntKind.wrap .i64 ((i:Int)+1)=((i+1:Nat):Int):=by rw[wrap_i64 _ (by omega) (by omega)];omega
    have c:vOnC s (i:Int)=true:=ZTb s (by omega);refine⟨(s,k,bif vOn s (i:Int)&&(decide (m<0)||decide (ZcG (i:Int) k<ZcG m k)) then (i:Int) else m,((i+1:Nat):Int),()),by simp only[ZcX,RT.val,d,c,w,Yb],⟨i+1,_,by omega,?_,?_,rfl⟩,by simp only;omega⟩
    ·cases vOn s (i:Int)&&(decide (m<0)||decide (ZcG (i:Int) k<ZcG m k))<;>simp only[Yb,Ye]<;>omega
    ·cases vOn s (i:Int)&&(decide (m<0)||decide (ZcG (i:Int) k<ZcG m k))<;>simp only[Yb,Ye]<;>omega
   ·right;left;have d:decide ((i:Int)<8)=false:=Yak (by omega)
    exact⟨(s,k,m,(i:Int),()),by simp only[ZcX,RT.val,d,Ye],rfl,h1,h2⟩)
  (s,k,-1,0,()) ⟨0,-1,by omega,by omega,by omega,rfl⟩ (by simp only;omega)
 obtain⟨r1,r2⟩:=r;simp only at h0 h1 h2;subst h0;have hv:(Zlb s k).val=some r2.2.2.1:=by simp only[Zlb,RT.val,hr,okB,getO,Yb]
 exact⟨by simp only[ZhC,hv];rfl,by simp only[ZcZ,hv,getO];exact h1,by simp only[ZcZ,hv,getO];exact h2⟩
theorem ZxB (p:PICT):ZqQ p=true/\ -1<=vPck p/\vPck p<=7:=by
 have key:∀r m s k q,∃v:Int,(Zla r m s k q).val=some v/\ -1<=v/\v<=7:=by
  intro r m s k q;have h1:=ZqR (ZS .u8 r m) k;have h2:=ZqR (Zcf m s q) k;simp only[Zla,RT.val,h1.1,h2.1,Yb];cases decide (ZcZ (ZS .u8 r m) k>=0)&&(decide (ZcZ (Zcf m s q) k<0)||decide (ZcG (ZcZ (ZS .u8 r m) k) k<ZcG (ZcZ (Zcf m s q) k) k))
  ·exact⟨-1,rfl,by omega,by omega⟩
  ·exact⟨_,rfl,h1.2.1,h1.2.2⟩
 obtain⟨v,hv,h1,h2⟩:=key (vReq p) p.2.2.2.2.2.2.2.2.2.2.2.2.2.2.2.1 p.2.2.2.2.2.2.2.2.2.2.2.2.2.2.1 p.2.2.2.2.2.2.2.2.2.2.2.2.2.2.2.2.1 p.2.2.2.2.2.2.2.2.2.1;have e:(ZFa p).val=some v:=by simp only[ZFa,RT.val,ZuB,ZE9,hv,okB,getO,Yb]
 exact⟨by simp only[ZqQ,e];rfl,by simp only[vPck,e,getO];exact h1,by simp only[vPck,e,getO];exact h2⟩
variable {x:Int}
theorem ZB8 (p:PICT) (h:0<=x):ZgS p x=true:=by simp only[ZgS,Zuy,RT.val,YQ h,Yb,okB]
theorem ZCc (p:PICT) (h:0<=x):ZhD p x=true:=by simp only[ZhD,ZCd,RT.val,YQ h,Yb,okB]
theorem ZTh (p:PICT):ZOG p=true:=by
 have h1:=(ZxB p).1;have h3:∀q:PICT,ZhD q (andI .i64 p.2.2.2.2.2.2.2.2.2.2.2.2.2.2.2.2.2.2.1 7)=true:=λq=>ZCc q (and7 _).1
 have h2:∀q:PICT,(!decide (vPck p>=0)||ZgS q (vPck p))=true:=λq=>by
  by_cases h:vPck p>=0
  ·rw[ZB8 q h,Yk]
  ·rw[Yak h];rfl
 unfold ZOG ZH1;simp only[RT.val,h1,h2,h3,Yk,Yb];cases p.2.2.2.2.2.2.2.2.2.2.2.2.2.2.2.2.2.1==0
 ·cases p.2.2.2.2.2.2.2.2.2.2.2.2.2.2.2.2.2.1==1
  ·rfl
  ·cases p.2.2.1<;>rfl
 ·rfl
theorem ZOB (p:PICT) (h:Bool):ZCa p h=true:=by
 have h1:=(ZxB p).1;unfold ZCa ZuA;by_cases hx:0<=vPck p
 ·have h2:∀q:PICT,ZgS q (vPck p)=true:=λq=>ZB8 q hx
  have h3:∀q:PICT,ZhD q (vPck p)=true:=λq=>ZCc q hx
  simp only[RT.val,h1,h2,h3,ZdO,Zcm,Yk,Yg,Yb];cases h
  ·cases p.2.2.2.2.2.2.2.2.2.2.2.1
   ·cases p.2.2.2.2.2.2.2.2.2.2.1<;>rfl
   ·cases decide (vPck p<0)<;>rfl
  ·rfl
 ·have h2:decide (vPck p<0)=true:=YQ (by omega);simp only[RT.val,h1,h2,ZdO,Zcm,Yk,YB,Yg,Yb];cases h
  ·cases p.2.2.2.2.2.2.2.2.2.2.2.1
   ·cases p.2.2.2.2.2.2.2.2.2.2.1<;>rfl
   ·rfl
  ·rfl
theorem ZOE (p:PICT) (v:Int):ZuD p v=true:=by
 have h1:=λs k=>(ZqR s k).1
 have h2:∀x:Int,(!decide (x>=0)||decide (0<=x))=true:=λx=>by by_cases h:0<=x<;>simp[h]
 have h3:decide (0<=IntKind.wrap .i64 (andI .u8 v 7))=true:=by have:=ZXq v;rw[wrap_i64 _ (by omega) (by omega)];exact YQ this.1
 unfold ZuD ZuC;simp only[RT.val,h1,h2,h3,ZdO,Zcm,Yk,Yg,Yb];rfl
theorem ZHW (p:PICT) (h:Bool) (v:Int):ZqO p h v=true:=by
 unfold ZqO Zk9;simp only[RT.val,ZOE,Yk,Yb];cases h
 ·cases andI .u8 v 16 !=0
  ·cases andI .u8 v 8==0<;>rfl
  ·rfl
 ·rfl
theorem Zed (o:Bool) {n:Int} (h:0<=n):ZeW o n=true:=by simp only[ZeW,ZOz,RT.val,YQ h,Yk,Yb];cases o<;>rfl
theorem ZE6 (l:List INPT) (hl:l.length<=1000):Zkm l=true/\(Zha l).length=4*l.length:=by
 have hms:=mst;obtain⟨r,hr,h0,h1⟩:=ZO (fl:=false) (t:=ZcF) (fuel:=λ_=>1000000000000)
  (λa=>∃(i:Nat) (o:List Int),i<=l.length/\o.length=4*i/\a=(l,(l.length:Int),(i:Int),o,()))
  (λa=>Int.toNat (a.2.1-a.2.2.1)) (λr=>r.1=false/\r.2.2.2.2.1.length=4*l.length)
  (by
   rintro a ⟨i,o,hi,ho,rfl⟩;by_cases hlt:i<l.length
   ·left;have d:decide ((i:Int)<(l.length:Int))=true:=YQ (by omega);have d2:decide ((i:Int)>=65536)=false:=Yak (by omega);have hin:Zf (i:Int) l.length=true:=Zae.2 ⟨by omega,by omega⟩;have w:IntKind.wrap .i64 ((i:Int)+1)=((i+1:Nat):Int):=by rw[wrap_i64 _ (by omega) (by omega)];omega
    have hb:∀a b c d:Int,Nat.ble (o++[a,b,c,d]).length most=true:=λa b c d=>Zft (by simp;omega)
    have b0:=λx=>Zed x (n:=0) (by decide)
    have b1:=λx=>Zed x (n:=1) (by decide)
    have b2:=λx=>Zed x (n:=2) (by decide)
    have b3:=λx=>Zed x (n:=3) (by decide)
    have b4:=λx=>Zed x (n:=4) (by decide)
    have b5:=λx=>Zed x (n:=5) (by decide)
    have b6:=λx=>Zed x (n:=6) (by decide)
    have b7:=λx=>Zed x (n:=7) (by decide)
    have hv:∃a b c d:Int,(ZcF (l,(l.length:Int),(i:Int),o,())).val=some (Go1.cont (l,(l.length:Int),((i+1:Nat):Int),o++[a,b,c,d],())):=by simp only[ZcF,RT.val,d,d2,hin,w,hb,b0,b1,b2,b3,b4,b5,b6,b7,ZdO,Zcm,Yk,Yg,Yj,YJ,Yb,Ye];exact⟨_,_,_,_,rfl⟩
    obtain⟨a,b,c,d,hv⟩:=hv;exact⟨_,hv,⟨i+1,_,by omega,by simp;omega,rfl⟩,by simp only;omega⟩
   ·right;left;have d:decide ((i:Int)<(l.length:Int))=false:=Yak (by omega)
    exact⟨(l,(l.length:Int),(i:Int),o,()),by simp only[ZcF,RT.val,d,Ye],rfl,by simp only;omega⟩)
  (l,(l.length:Int),0,[],()) ⟨0,[],by omega,rfl,rfl⟩ (by simp only;omega)
 obtain⟨r1,r2⟩:=r;simp only at h0 h1;subst h0;have hv:(ZeV l).val=some r2.2.2.2.1:=by simp only[ZeV,RT.val,iN,hr,okB,getO,Yb]
 exact⟨by simp only[Zkm,hv];rfl,by simp only[Zha,hv,getO];exact h1⟩
abbrev MacT:=List Z0×List Cell×List Int×List (Int×Int)
def pre (o:List (Int×Int)) (m:MacT):MacT:=(m.1,m.2.1,m.2.2.1,o++m.2.2.2)
theorem smCb (h:l.length<=1000000):smC l=true:=Zft (by have:=mst;omega)
theorem smGb {l:List Z0} (h:l.length<=1000000):smG l=true:=Zft (by have:=mst;omega)
def zeroC:TC:=(0,(0,0,0,0,0,0,0,(false,false,false,false,false,false,false),0,0),false,false,false,0,false,false,false,false,false,false,false)
abbrev STT:=SYST×List PINT×List ITMT×List EVTT×List TC
structure RunOk (b:BRDT) (st:STT) (n:Nat):Prop where
 g:smG b.2.1=true
 m:st.1.2.1.length<=100000+2*n
 o:st.1.2.2.2.2.2.length<=n
 k:st.1.1.2.2.1.length<=n
 t:st.2.1.length<=n
 it:st.2.2.1.length<=n
 ev:st.2.2.2.1.length<=2*n
 cp:st.2.2.2.2.length<=2*n
 ne:st.2.2.1=[]->ZWd st.1.1=1
def ZXi (b:BRDT):STT:=((wNew b).1,[],[],[],[])
def ZVJ:SYST:=((zeroC,0,[],(0,0,0,0),0,false),[],(0,false,false,false,false,0,0,false,false,false,false,false,0,0,0,0,0,0,0,false),(0,0,0),0,[])
theorem Zk3 (b:BRDT) (hg:smG b.2.1=true) (hm:smC b.2.2.2.2.2.2=true):Zcj b=true:=by
 unfold Zcj ZfC;simp only[RT.val,hg,hm,Yk,Yb];cases b.1 !=1&&b.1 !=2
 ·cases Zbz b.2.1 !=0
  ·cases decide (b.2.2.1<0)||(decide (b.2.2.1>100)|| !vldB b.2.2.2.2.2.2)<;>rfl
  ·rfl
 ·rfl
def newS (b:BRDT):SYST:=((((newX b.1).1.1,(0,0,0,0,0,0,0,(false,false,false,false,false,false,false),0,0),false,false,false,(newX b.1).1.2.2.2.2.2.1,false,false,false,false,false,false,false),0,[],(1,0,0,4),1,false),
 normX b.2.2.2.2.2.2,(0,false,false,false,false,0,0,false,false,false,false,false,0,0,0,0,7,0,0,false),(0,0,0),0,[])
theorem ZS3 (b:BRDT) (hg:smG b.2.1=true) (hm:b.2.2.2.2.2.2.length<=100000):Zg8 b=true/\(wNew b).2=Zbf b/\((wNew b).2=0->RunOk b (ZXi b) 0/\(wNew b).1.2.1=normX b.2.2.2.2.2.2):=by
 have hc:=smCb (l:=b.2.2.2.2.2.2) (by omega);have hv:(Zo5 b).val=some (bif Zbf b !=0 then (ZVJ,Zbf b) else ((newS b),0)):=by unfold Zo5;simp only[RT.val,Zk3 b hg hc,hc,Yb];cases Zbf b !=0<;>rfl
 refine⟨by simp only[Zg8,hv];rfl,?_,?_⟩
 ·simp only[wNew,hv,getO];cases hx:Zbf b !=0
  ·simp at hx;exact hx.symm
  ·rfl
 ·intro h0;have hx:(Zbf b !=0)=false:=by
   cases hx:Zbf b !=0
   ·rfl
   ·simp only[wNew,hv,getO,hx,Yb] at h0;rw[h0] at hx;simp at hx
  have e:wNew b=((newS b),0):=by simp only[wNew,hv,getO,hx,Ye]
  have hn:=ZeH b.2.2.2.2.2.2;unfold ZXi;rw[e];exact⟨⟨hg,by show (normX b.2.2.2.2.2.2).length<=_;omega,Yd _,Yd _,Yd _,Yd _,Yd _,Yd _,λ_=>rfl⟩,rfl⟩
end
end Go.Proofs.YtpnjbfjomebppaaGreat
