import Derived.Test.YtpnjbfjomebppaaGreatMemD
import Derived.RangeFuncNested
import Derived.RangeFuncLeaves
import Derived.Shelf.Abstract
import Derived.OwnWalkIn
import Derived.TacticsInMore
import Derived.LoopNIn
import Derived.LoopIn
import Derived.Test.YtpnjbfjomebppaaGreatS3Clo
import Derived.Test.YtpnjbfjomebppaaGreatMakeOk5
import Derived.Test.YtpnjbfjomebppaaGreatPicL
set_option linter.unusedVariables false
set_option linter.unusedSimpArgs false
namespace Go.Proofs.YtpnjbfjomebppaaGreat
open Go Go.S3 Go.Proofs Go.Proofs.Cells Go.RowKit Go.Shelf
attribute [local go_sem] Oper.semAt_some
noncomputable section
def Held (n₀:Nat) (W:World) (sv:Value) (l:List Cell):Prop:=
 (∃a cap,sv=.slice a 0 cap/\l=[])\/∃b off cap,sv=.slice (some ⟨b,off,none⟩) l.length cap/\b<n₀/\
  ∀j,j<l.length->W.cell? ⟨b,off+j*2,none⟩=some (.int .u16 (el l j).1)/\W.cell? ⟨b,off+j*2+1,none⟩=some (.int .u8 (el l j).2)
theorem Held.mono {n₀ n₁:Nat} {W:World} {sv:Value} {l:List Cell} (h:Held n₀ W sv l) (hn:n₀<=n₁):Held n₁ W sv l:=
 h.elim .inl λ⟨b,off,cap,e,hb,hc⟩=>.inr ⟨b,off,cap,e,by omega,hc⟩
end
end Go.Proofs.YtpnjbfjomebppaaGreat
namespace Go.Proofs.YtpnjbfjomebppaaGreat
open Go Go.S3 Go.Proofs Go.Proofs.Cells Go.RowKit Go.Shelf
attribute [local go_sem] Oper.semAt_some
noncomputable section
end
end Go.Proofs.YtpnjbfjomebppaaGreat
open Go Go.S3 Go.Proofs
set_option maxRecDepth 100000
namespace Go.Proofs.YtpnjbfjomebppaaGreat
noncomputable section
end
end Go.Proofs.YtpnjbfjomebppaaGreat
open Go Go.S3 Go.Proofs Go.Proofs.Cells
namespace Go.Proofs.YtpnjbfjomebppaaGreat
noncomputable section
end
end Go.Proofs.YtpnjbfjomebppaaGreat
open Go.Proofs.Tryz (prog)
open Go.IntKind (u8 u16 i64)
namespace Go.Proofs.YtpnjbfjomebppaaGreat
noncomputable section
abbrev ZyF:List Sh:=[Sh.one (R.int i64)]
abbrev ZyG:Rs:=Rs.one (Sh.one (R.int i64))
def ZEN (n:Int):RT (Int):=
 .Lf (if (if 100<n then 100 else n)>0 then if 100<n then 100 else n else 0)
def ZEO (n:Int):Int:=(ZEN n).val
def ZvU:En:=Zi ZyF ZyG (λ_=>none) (λa=>ZEO a)
theorem Zr4:Zd prog 335 ZvU:=
 pureQ 7 [] [] ZyF ZyG trivial Tryz.func335 Tryz.call335 trivial (t:=λa=>ZEN a)
abbrev Zor:List Sh:=[Sh.one rcRG,Sh.one (R.int u16)]
abbrev Zjc:Rs:=Rs.one (Sh.one (R.int i64))
def Zj2 (l:List (QT9)) (t:Int):RT (Option (Int)):=
 .br (Zne l t) (.br (!decide (Zi1 l t>=0)||Ze (Zi1 l t) (List.length l)) (.br (decide (Zi1 l t>=0)) (.Lf (some (ZEO (R.get (R.Pq (R.int u16) (R.Pq (R.int u16) (R.Pq R.bool (R.int i64)))) l (Zi1 l t)).2.2.2))) (.Lf (some (0)))) (.Lf none)) (.Lf none)
def ZD5 (l:List (QT9)) (t:Int):Int:=getO Zjc.Df (Zj2 l t).val
def ZuN (l:List (QT9)) (t:Int):Bool:=okB (Zj2 l t).val
def ZLG:En:=Zi Zor Zjc (λa=>some (ZuN a.1 a.2)) (λa=>ZD5 a.1 a.2)
theorem ZD4:Zd prog 334 ZLG:=
 pureP 63 [(169,ZyS),(335,ZvU)] [] Zor Zjc ⟨Zo2,Zr4,Tv⟩ Tryz.func334 Tryz.call334 trivial (t:=λa=>Zj2 a.1 a.2)
abbrev Zj4:List Sh:=[Sh.one rcRG]
abbrev ZgW:Rs:=Rs.one (Sh.one (R.int i64))
def ZAB:LS:={n:=30,Sl:=[(2,.code (Sh.one (R.int i64))),(8,.code (Sh.one rcRG)),(9,.code (Sh.one (R.int i64))),(10,.code (Sh.one (R.int i64)))],Bx:=[],Sg:=[]}
def Zdd (a:QT22):RT (Option (Go1 (QT22))):=
 let x1:QT9:=R.get (R.Pq (R.int u16) (R.Pq (R.int u16) (R.Pq R.bool (R.int i64)))) a.2.1 a.2.2.2.1
 let x2:=x1.2
 let x3:=x2.2.2
 let x4:List (QT9)×Int×Int×PUnit:=(a.2.1,a.2.2.1,a.2.2.2.1,PUnit.unit)
 .br (decide (a.2.2.2.1<a.2.2.1)) (.br (Ze a.2.2.2.1 (List.length a.2.1)) (.br (decide (x2.1<x1.1)||(decide (x3<0)||decide (x3>100))) (.Lf (some (Go1.ret (1,x4)))) (.Lf (some (Go1.cont (a.1,a.2.1,a.2.2.1,i64.wrap (a.2.2.2.1+1),PUnit.unit))))) (.Lf none)) (.Lf (some (Go1.brk (a.1,x4))))
def ZmU:Ora:=ZcQ true ZAB Zdd (λa=>1000000000000)
theorem ZrC:Zb6 (envX prog [] [] 31 8) (.block 0 (.loop (ZaU Tryz.f104.body 0))) ZmU:=
 loopP trivial
def Zeu (l:List (QT9)):RT (Option (Int)):=
 let x1:=runF true Zdd (λa=>1000000000000) (0,l,iN (List.length l),0,())
 let x2:=getO (false,0,l,iN (List.length l),0,()) x1
 .br (decide (iN (List.length l)>16)) (.Lf (some (3))) (.br (okB x1) (.br x2.1 (.Lf (some x2.2.1)) (.Lf (some (0)))) (.Lf none))
def ZuP (l:List (QT9)):Int:=getO ZgW.Df (Zeu l).val
def Zot (l:List (QT9)):Bool:=okB (Zeu l).val
def ZId:En:=Zi Zj4 ZgW (λa=>some (Zot a)) (λa=>ZuP a)
theorem ZAA:Zd prog 104 ZId:=
 pureP 31 [] [(0,ZmU)] Zj4 ZgW trivial Tryz.func104 Tryz.call104 ⟨ZrC,Tv⟩ (t:=λa=>Zeu a)
def sm {α:Type} (l:List α):Bool:=Nat.ble (l.length+1) most
def smC (l:List (Int×Int)):Bool:=sm l
def smB (l:List Int):Bool:=sm l
def smG (l:List Z7):Bool:=sm l
variable {α:Type}
theorem Zri {l:List α}:sm l=true↔l.length+1<=most:=by simp[sm]
theorem ZAp {l:List α} (h:sm l=true):l.length<=most:=by have:=Zri.1 h;omega
theorem ZJl (l:List Z7) (t:Int): -1<=ZbI l t/\(ZbI l t<0\/∃i:Nat,i<l.length/\ZbI l t=i):=by
 unfold ZbI;split
 ·rename_i h;exact⟨by omega,.inr ⟨_,h,rfl⟩⟩
 ·exact⟨by omega,.inl (by omega)⟩
theorem ZtN (l:List Z7) (t:Int) (h:0<=ZbI l t):Ze (ZbI l t) l.length=true:=by
 rcases (ZJl l t).2 with h1|⟨i,hi,e⟩
 ·omega
 ·rw[e];exact ZdT l i hi
def ZdR (l:List Z7) (m:List Cell) (t v:Int):List Cell:=bif decide (ZbI l t>=0)&&(R.get GR l (ZbI l t)).2.2.1 then putX (normX m) (t,v) else normX m
def limX (n:Int):Int:=if (if 100<n then 100 else n)>0 then if 100<n then 100 else n else 0
def ZqN (l:List Z7) (t:Int):Int:=bif decide (ZbI l t>=0) then limX (R.get GR l (ZbI l t)).2.2.2 else 0
theorem ZAq (l:List Z7) (m:List Cell) (t v:Int) (hl:l.length<=most) (hm:m.length+1<=most):Zoq l m t v=true/\ZuM l m t v=ZdR l m t v:=by
 have h1:=ZjX l t hl;have h2:=ZH7 m t v hm;have h3:=ZjW m hm;have hv:(ZgU l m t v).val=some (ZdR l m t v):=by
  have hr:(!decide (ZbI l t>=0)||Ze (ZbI l t) l.length)=true:=by
   by_cases h:0<=ZbI l t
   ·rw[ZtN l t h];simp
   ·have:decide (ZbI l t>=0)=false:=by simp;omega
    rw[this];rfl
  simp only[ZgU,RT.val,h1.1,h1.2,h2.1,h2.2,h3.1,h3.2,hr,Ye,Ya,ZdR];cases decide (ZbI l t>=0)&&(R.get GR l (ZbI l t)).2.2.1<;>rfl
 exact⟨by simp only[Zoq,hv];rfl,by simp only[ZuM,hv,getO]⟩
theorem ZAr (l:List Z7) (t:Int) (hl:l.length<=most):ZuN l t=true/\ZD5 l t=ZqN l t:=by
 have h1:=ZjX l t hl;have hv:(Zj2 l t).val=some (ZqN l t):=by
  have hr:(!decide (ZbI l t>=0)||Ze (ZbI l t) l.length)=true:=by
   by_cases h:0<=ZbI l t
   ·rw[ZtN l t h];simp
   ·have:decide (ZbI l t>=0)=false:=by simp;omega
    rw[this];rfl
  simp only[Zj2,RT.val,h1.1,h1.2,hr,Ya,ZqN];cases decide (ZbI l t>=0)<;>rfl
 exact⟨by simp only[ZuN,hv];rfl,by simp only[ZD5,hv,getO]⟩
def badR (r:Z7):Bool:=decide (r.2.1<r.1)||(decide (r.2.2.2<0)||decide (r.2.2.2>100))
def Zeq (l:List Z7):Int:=bif decide (iN l.length>16) then 3 else bif l.any badR then 1 else 0
theorem ZuD (l:List Z7) (hl:l.length<=most):Zot l=true/\ZuP l=Zeq l:=by
 have hms:=mst;obtain⟨r,hr,hR⟩:=Zat (fl:=true) (t:=Zdd) (fuel:=λ_=>1000000000000)
  (λx=>∃i:Nat,i<=l.length/\(∀k,k<i->badR (rg l k)=false)/\x=(0,l,(l.length:Int),(i:Int),()))
  (λx=>Int.toNat (x.2.2.1-x.2.2.2.1)) (λr=>(r.1=false/\l.any badR=false)\/(r.1=true/\l.any badR=true/\r.2.1=1))
  (by
   rintro x ⟨i,hi,hk,rfl⟩;by_cases hlt:i<l.length
   ·have d:decide ((i:Int)<(l.length:Int))=true:=by simpa using hlt
    have r1:=ZdT l i hlt;have g1:=ZKS l i;cases hh:badR (rg l i) with
    |false=>
     left;refine⟨(0,l,(l.length:Int),((i+1:Nat):Int),()),?_,⟨i+1,hlt,λk hk'=> ?_,rfl⟩,by simp only;omega⟩
     ·simp only[badR] at hh;simp only[Zdd,RT.val,d,r1,g1,hh,Ya,Yb,Zub i (by omega)]
     ·by_cases e:k=i
      ·subst e;exact hh
      ·exact hk k (by omega)
    |true=>
     right;right;refine⟨(1,l,(l.length:Int),(i:Int),()),rfl,?_,.inr ⟨rfl,List.any_eq_true.2 ⟨rg l i,?_,hh⟩,rfl⟩⟩
     ·simp only[badR] at hh;simp only[Zdd,RT.val,d,r1,g1,hh,Ya]
     ·rw[<-Zrp l i hlt];exact List.getElem_mem hlt
   ·right;left;have d:decide ((i:Int)<(l.length:Int))=false:=by simpa using hlt
    refine⟨_,by simp only[Zdd,RT.val,d,Yb];rfl,.inl ⟨rfl,?_⟩⟩;rw[List.any_eq_false];intro q hq;obtain⟨k,hk',rfl⟩:=List.mem_iff_getElem.1 hq
    rw[Zrp l k hk',hk k (by omega)];simp)
  (0,l,iN l.length,0,()) ⟨0,Yr _,λk h=>by omega,rfl⟩ (by simp only[iN];omega)
 have hv:(Zeu l).val=some (Zeq l):=by
  cases hd:decide (iN l.length>16) with
  |true=>simp only[Zeu,RT.val,hd,Ya,Zeq]
  |false=>
   rcases hR with ⟨h1,h2⟩|⟨h1,h2,h3⟩
   ·simp only[Zeu,RT.val,hd,hr,okB,getO,Ya,Yb,h1,h2,Zeq]
   ·simp only[Zeu,RT.val,hd,hr,okB,getO,Ya,Yb,h1,h2,h3,Zeq]
 exact⟨by simp only[Zot,hv];rfl,by simp only[ZuP,hv,getO]⟩
theorem ZAn {P:Program} {f:FuncId} {ts:List Sh} {rs:Rs} {C:HL ts->Bool} {F G:HL ts->rs.den} (h:Zd P f (Zi ts rs (λa=>some (C a)) F)) {pre:HL ts->Bool} (hp:∀a,pre a=true->C a=true/\F a=G a):
  Zd P f (Zi ts rs (λa=>some (pre a)) G):=by
 have key:∀a,some (pre a)≠some false->pre a=true:=λa h=>by cases hq:pre a with
  |true=>rfl
  |false=>rw[hq] at h;exact absurd rfl h
 exact h.pure_congr (λa _ hq=>by rw[(hp a (key a hq)).1];simp) (λa _ hq=>(hp a (key a hq)).2)
def Zje:En:=Zi Zos Zjd (λa=>some (smC a)) (λa=>vldB a)
theorem ZhZ:Zd prog 105 Zje:=ZAn Zj3 λa h=>ZDR a (ZAp h)
def ZoN:En:=Zi Zvc ZoL (λa=>some (smC a)) (λa=>normX a)
theorem Zkh:Zd prog 93 ZoN:=ZAn ZoK λa h=>ZjW a (Zri.1 h)
def Zym:En:=Zi ZoC Zjf (λa=>some (smG a.1&&smC a.2.1)) (λa=>ZmS a.1 a.2.1 a.2.2)
theorem ZAI:Zd prog 255 Zym:=ZAn ZEe λa h=>by rw[Yc] at h;exact ZDV a.1 a.2.1 a.2.2 (ZAp h.1) (ZAp h.2)
def Zj1:En:=Zi ZjZ ZgV (λa=>some (smG a.1&&smC a.2.1)) (λa=>ZdR a.1 a.2.1 a.2.2.1 a.2.2.2)
theorem Zj0:Zd prog 95 Zj1:=ZAn ZAx λa h=>by rw[Yc] at h;exact ZAq a.1 a.2.1 a.2.2.1 a.2.2.2 (ZAp h.1) (Zri.1 h.2)
def Zx2:En:=Zi Zor Zjc (λa=>some (smG a.1)) (λa=>ZqN a.1 a.2)
theorem ZAy:Zd prog 334 Zx2:=ZAn ZD4 λa h=>ZAr a.1 a.2 (ZAp h)
def ZrD:En:=Zi Zj4 ZgW (λa=>some (smG a)) (λa=>Zeq a)
theorem ZuO:Zd prog 104 ZrD:=ZAn ZAA λa h=>ZuD a (ZAp h)
abbrev Zxp:List Sh:=[Sh.one (R.int u8),Sh.one (R.int u8),Sh.one (R.int u8)]
abbrev Zxq:Rs:=Rs.one (Sh.one (R.int u8))
def ZCV (a:Int) (b:Int) (c:Int):RT (Int):=
 .Lf (xorI u8 (xorI u8 (xorI u8 a b) c) 165)
def Zq0 (a:Int) (b:Int) (c:Int):Int:=(ZCV a b c).val
def ZjF:En:=Zi Zxp Zxq (λ_=>none) (λa=>Zq0 a.1 a.2.1 a.2.2)
theorem ZgI:Zd prog 117 ZjF:=
 pureQ 127 [] [] Zxp Zxq trivial Tryz.func117 Tryz.call117 trivial (t:=λa=>ZCV a.1 a.2.1 a.2.2)
abbrev ZJI:List Sh:=[Sh.one R.bool,Sh.one (R.int i64)]
abbrev ZC1:Rs:=Rs.one (Sh.one (R.int u8))
def ZHG (o:Bool) (n:Int):RT (Option (Int)):=
 .br (!o||decide (0<=n)) (.br (o) (.Lf (some (shlI u8 1 n))) (.Lf (some (0)))) (.Lf none)
def wBit (o:Bool) (n:Int):Int:=getO ZC1.Df (ZHG o n).val
def Zep (o:Bool) (n:Int):Bool:=okB (ZHG o n).val
def ZLd:En:=Zi ZJI ZC1 (λa=>some (Zep a.1 a.2)) (λa=>wBit a.1 a.2)
theorem ZC0:Zd prog 116 ZLd:=
 pureP 31 [] [] ZJI ZC1 trivial Tryz.func116 Tryz.call116 trivial (t:=λa=>ZHG a.1 a.2)
abbrev ZCR:List Sh:=[]
abbrev ZCS:Rs:=Rs.one (Sh.agg ZcP)
def ZJG:RT INPT:=
 .Lf ((true,false,false,false,false,false,false,false,0,0))
def ZH:INPT:=(ZJG).val
def Zxl:En:=Zi ZCR ZCS (λ_=>none) (λa=>ZH)
theorem ZnT:Zd prog 118 Zxl:=
 pureQ 1 [] [] ZCR ZCS trivial Tryz.func118 Tryz.call118 trivial (t:=λa=>ZJG)
abbrev ZqX:List Sh:=[Sh.one (R.sl (R.int u8))]
abbrev ZjD:Rs:=Rs.one (Sh.one (R.sl ZcP))
def ZAg:LS:={n:=83,Sl:=[(0,.code (Sh.one (R.sl (R.int u8)))),(3,.tip 0),(4,.code (Sh.one (R.int i64)))],Bx:=[],Sg:=[⟨ZcP,122,true⟩]}
def Zcj (a:List Int×Int×List INPT×PUnit):RT (Option (Go1 (List Int×Int×List INPT×PUnit))):=
 let x1:= !Ze (i64.wrap (a.2.1+1)) (List.length a.1)||Ze (i64.wrap (a.2.1+2)) (List.length a.1)
 let x2:= !Ze (i64.wrap (a.2.1+3)) (List.length a.1)||x1
 let x3:= !x2
 let x4:= !Ze (i64.wrap (a.2.1+3)) (List.length a.1)||Ze (i64.wrap (a.2.1+1)) (List.length a.1)
 let x5:= !x4
 let p1:=(!Ze (i64.wrap (a.2.1+3)) (List.length a.1))::x5::x3::(!Ze a.2.1 (List.length a.1))::[]
 let x6:=R.get (R.int u8) a.1 (i64.wrap (a.2.1+3)) !=Zq0 (R.get (R.int u8) a.1 a.2.1) (R.get (R.int u8) a.1 (i64.wrap (a.2.1+1))) (R.get (R.int u8) a.1 (i64.wrap (a.2.1+2)))
 let x7:= !x6||Nat.ble (List.length (a.2.2.1++[ZH])) most
 let x8:= !x7
 let p2:=x6::x8::p1
 let x9:List INPT:=a.2.2.1++[(andI u8 (R.get (R.int u8) a.1 a.2.1) 1==0,andI u8 (R.get (R.int u8) a.1 a.2.1) 2 !=0,andI u8 (R.get (R.int u8) a.1 a.2.1) 4 !=0,andI u8 (R.get (R.int u8) a.1 a.2.1) 8 !=0,andI u8 (R.get (R.int u8) a.1 a.2.1) 16 !=0,andI u8 (R.get (R.int u8) a.1 a.2.1) 32 !=0,andI u8 (R.get (R.int u8) a.1 a.2.1) 64 !=0,andI u8 (R.get (R.int u8) a.1 a.2.1) 128 !=0,R.get (R.int u8) a.1 (i64.wrap (a.2.1+1)),R.get (R.int u8) a.1 (i64.wrap (a.2.1+2)))]
 let x10:= !Ze (i64.wrap (a.2.1+1)) (List.length a.1)||(!Ze (i64.wrap (a.2.1+2)) (List.length a.1)||Nat.ble (List.length x9) most)
 let x11:= !x10
 let p3:=x11::p2
 let p4:=(!x1)::p3
 .br (decide (i64.wrap (a.2.1+4)<=iN (List.length a.1))&&decide (iN (List.length a.2.2.1)<65536)) (.br (orR p4 (Ze (i64.wrap (a.2.1+1)) (List.length a.1))) (.br (orR p3 x1) (.br (orR p2 x10) (.br (orR p1 x7) (.br (!Ze a.2.1 (List.length a.1)||(x3||(x5||Ze (i64.wrap (a.2.1+3)) (List.length a.1)))) (.br (!Ze a.2.1 (List.length a.1)||(x3||x4)) (.br (!Ze a.2.1 (List.length a.1)||x2) (.br (Ze a.2.1 (List.length a.1)) (.Lf (some (Go1.cont (a.1,i64.wrap (a.2.1+4),bif x6 then a.2.2.1++[ZH] else x9,PUnit.unit)))) (.Lf none)) (.Lf none)) (.Lf none)) (.Lf none)) (.Lf none)) (.Lf none)) (.Lf none)) (.Lf none)) (.Lf (some (Go1.brk (a.1,a.2.1,a.2.2.1,PUnit.unit))))
def Zmx:Ora:=ZcQ false ZAg Zcj (λa=>1000000000000)
theorem ZqY:Zb6 (envX prog [(117,ZjF),(118,Zxl)] [] 63 8) (.block 0 (.loop (ZaU Tryz.f65.body 0))) Zmx:=
 loopP ⟨ZgI,ZnT,Tv⟩
def ZgF (l:List Int):RT (Option (List INPT)):=
 .br (okB (runF false Zcj (λa=>1000000000000) (l,0,[],()))) (.Lf (some (getO (false,l,0,[],()) (runF false Zcj (λa=>1000000000000) (l,0,[],()))).2.2.2.1)) (.Lf none)
def ZaK (l:List Int):List INPT:=getO ZjD.Df (ZgF l).val
def Zi9 (l:List Int):Bool:=okB (ZgF l).val
def ZnV:En:=Zi ZqX ZjD (λa=>some (Zi9 a)) (λa=>ZaK a)
theorem Zmw:Zd prog 65 ZnV:=
 pureP 63 [(117,ZjF),(118,Zxl)] [(0,Zmx)] ZqX ZjD ⟨ZgI,ZnT,Tv⟩ Tryz.func65 Tryz.call65 ⟨ZqY,Tv⟩ (t:=λa=>ZgF a)
abbrev ZCT:Rs:=Rs.one (Sh.one (R.sl (R.int u8)))
def Zdc (a:List INPT×Int×Int×List Int×PUnit):RT (Option (Go1 (List INPT×Int×Int×List Int×PUnit))):=
 let x1:INPT:=R.get ZcP a.1 a.2.2.1
 let x2:= !x1.1
 let x3:=Zep x2 0
 let x4:= !x3
 let x5:=x1.2
 let x6:=x5.1
 let x7:=Zep x6 1
 let x8:= !x7
 let x9:=x5.2
 let x10:=x9.1
 let x11:=Zep x10 2
 let x12:= !x11
 let x13:=x9.2
 let x14:=x13.1
 let x15:=Zep x14 3
 let x16:= !x15
 let p2:=x16::x12::x8::x4::[]
 let x17:=x13.2
 let x18:=x17.1
 let x19:=Zep x18 4
 let x20:= !x19
 let p3:=x20::p2
 let x21:=x17.2
 let x22:=x21.1
 let x23:=Zep x22 5
 let x24:= !x23
 let p6:=x24::p3
 let x25:=x21.2
 let x26:=x25.1
 let x27:=Zep x26 6
 let p7:=(!x27)::p6
 let x28:=x25.2
 let x29:=x28.1
 let x30:=orR p7 (Zep x29 7)
 let x31:= !x30
 let x32:=orR p6 x27
 let x33:= !x32
 let p1:=x33::x31::(decide (a.2.2.1>=65536))::(!Ze a.2.2.1 (List.length a.1))::[]
 let x34:=orR p3 x23
 let x35:= !x34
 let p4:=x35::p1
 let x36:=orR p2 x19
 let x37:= !x36
 let p5:=x37::p4
 let x38:=x4||(x8||(x12||x15))
 let x39:= !x38
 let p8:=x39::p5
 let x40:=x4||(x8||x11)
 let x41:= !x40
 let p9:=x41::p8
 let x42:=x4||x7
 let x43:= !x42
 let p10:=x43::p9
 let p11:=x4::p10
 let x44:=orI u8 (orI u8 (orI u8 (orI u8 (orI u8 (orI u8 (orI u8 (wBit x2 0) (wBit x6 1)) (wBit x10 2)) (wBit x14 3)) (wBit x18 4)) (wBit x22 5)) (wBit x26 6)) (wBit x29 7)
 let x45:=x28.2
 let x46:=x45.1
 let x47:=x45.2
 let x48:List Int:=a.2.2.2.1++[x44,x46,x47,Zq0 x44 x46 x47]
 .br (decide (a.2.2.1<a.2.1)) (.br (orR p11 (Nat.ble (List.length x48) most)) (.br (orR p10 x3) (.br (orR p9 x42) (.br (orR p8 x40) (.br (orR p5 x38) (.br (orR p4 x36) (.br (orR p1 x34) (.br (!Ze a.2.2.1 (List.length a.1)||(decide (a.2.2.1>=65536)||(x31||x32))) (.br (!Ze a.2.2.1 (List.length a.1)||(decide (a.2.2.1>=65536)||x30)) (.br (Ze a.2.2.1 (List.length a.1)) (.br (decide (a.2.2.1>=65536)) (.Lf (some (Go1.brk (a.1,a.2.1,a.2.2.1,a.2.2.2.1,PUnit.unit)))) (.Lf (some (Go1.cont (a.1,a.2.1,i64.wrap (a.2.2.1+1),x48,PUnit.unit))))) (.Lf none)) (.Lf none)) (.Lf none)) (.Lf none)) (.Lf none)) (.Lf none)) (.Lf none)) (.Lf none)) (.Lf none)) (.Lf none)) (.Lf (some (Go1.brk (a.1,a.2.1,a.2.2.1,a.2.2.2.1,PUnit.unit))))
def Zfs (l:List INPT):RT (Option (List Int)):=
 let x1:=runF false Zdc (λa=>1000000000000) (l,iN (List.length l),0,[],())
 .br (okB x1) (.Lf (some (getO (false,l,iN (List.length l),0,[],()) x1).2.2.2.2.1)) (.Lf none)
def ZjC (l:List INPT):List Int:=getO ZCT.Df (Zfs l).val
def Zxm (l:List INPT):Bool:=okB (Zfs l).val
abbrev Zxb:List Sh:=[Sh.agg (R.Pq (R.int i64) (R.Pq rcRG (R.Pq (R.int i64) (R.Pq (R.int u8) (R.Pq (R.int u8) (R.Pq R.bool rcCE))))))]
abbrev ZnO:Rs:=Rs.one (Sh.one (R.int i64))
def ZnN (l:BRDT):RT (Option (Int)):=
 .br (l.1 !=1&&l.1 !=2) (.Lf (some (1))) (.br (smG l.2.1) (.br (Zeq l.2.1 !=0) (.Lf (some (Zeq l.2.1))) (.br (decide (l.2.2.1<0)||(decide (l.2.2.1>100)||smC l.2.2.2.2.2.2)) (.br (decide (l.2.2.1<0)||(decide (l.2.2.1>100)|| !vldB l.2.2.2.2.2.2)) (.Lf (some (1))) (.Lf (some (0)))) (.Lf none))) (.Lf none))
def Zdk (l:BRDT):Int:=getO ZnO.Df (ZnN l).val
def ZnP (l:BRDT):Bool:=okB (ZnN l).val
def ZCy:En:=Zi Zxb ZnO (λa=>some (ZnP a)) (λa=>Zdk a)
theorem ZCx:Zd prog 51 ZCy:=
 pureP 15 [(104,ZrD),(105,Zje)] [] Zxb ZnO ⟨ZuO,ZhZ,Tv⟩ Tryz.func51 Tryz.call51 trivial (t:=λa=>ZnN a)
abbrev ZJE:List Sh:=[Sh.agg (R.Pq (R.int i64) (R.Pq rcRG (R.Pq (R.int i64) (R.Pq (R.int u8) (R.Pq (R.int u8) (R.Pq R.bool rcCE))))))]
abbrev ZCJ:Rs:=Rs.tup [Sh.agg (R.Pq (R.Pq ZX (R.Pq (R.int i64) (R.Pq (R.sl (R.int u8)) (R.Pq (RY) (R.Pq (R.int i64) R.bool))))) (R.Pq rcCE (R.Pq ZaQ (R.Pq (R.Pq (R.int u16) (R.Pq (R.int u8) (R.int i64))) (R.Pq (R.int i64) (R.sl (R.Pq (R.int u8) (R.int u8)))))))),Sh.one (R.int i64)]
def Zuc (l:BRDT):RT (Option (SYST×Int)):=
 let x1:TR:=(0,0,0,0,0,0,0,(false,false,false,false,false,false,false),0,0)
 .br (ZnP l) (.br (Zdk l !=0) (.Lf (some (((((0,x1,false,false,false,0,false,false,false,false,false,false,false),0,[],(0,0,0,0),0,false),[],(0,false,false,false,false,0,0,false,false,false,false,false,0,0,0,0,0,0,0,false),(0,0,0),0,[]),Zdk l)))) (.br (smC l.2.2.2.2.2.2) (.Lf (some ((((((newX l.1).1.1,x1,false,false,false,(newX l.1).1.2.2.2.2.2.1,false,false,false,false,false,false,false),0,[],(1,0,0,4),1,false),Cells.normX l.2.2.2.2.2.2,(0,false,false,false,false,0,0,false,false,false,false,false,0,0,0,0,7,0,0,false),(0,0,0),0,[]),0)))) (.Lf none))) (.Lf none)
def wNew (l:BRDT):SYST×Int:=getO ZCJ.Df (Zuc l).val
def ZHz (l:BRDT):Bool:=okB (Zuc l).val
def ZK9:En:=Zi ZJE ZCJ (λa=>some (ZHz a)) (λa=>wNew a)
theorem ZCI:Zd prog 49 ZK9:=
 pureP 31 [(51,ZCy),(93,ZoN),(100,ZKg),(101,ZLk)] [] ZJE ZCJ ⟨ZCx,Zkh,ZIz,ZDo,Tv⟩ Tryz.func49 Tryz.call49 trivial (t:=λa=>Zuc a)
def ZaL:En:=.tree (ZaH (envX prog [] [] 7 8) Tryz.f254)
theorem Zbi:Zd prog 254 ZaL:=Zb3 (P:=prog) (n:=7) (k:=8) (l:=[]) (ol:=[]) trivial Tryz.func254 rfl (by kernel_rfl) Tryz.call254 trivial
abbrev ZCK:List Sh:=[Sh.agg (R.Pq (R.int i64) (R.Pq rcRG (R.Pq (R.int i64) (R.Pq (R.int u8) (R.Pq (R.int u8) (R.Pq R.bool rcCE)))))),Sh.agg (RY)]
abbrev Zud:Rs:=Rs.one (Sh.one (R.int i64))
def Zxe (l:BRDT) (x:QT11):RT (Option (Int)):=
 .br (!(decide (x.1>=1)&&decide (x.1<=5))||smG l.2.1) (.br (decide (x.1>=1)&&decide (x.1<=5)) (.Lf (some (ZqN l.2.1 x.2.1))) (.br (x.1==6||x.1==7) (.Lf (some (ZEO l.2.2.1))) (.Lf (some (0))))) (.Lf none)
def ZHC (l:BRDT) (x:QT11):Int:=getO Zud.Df (Zxe l x).val
def Zxf (l:BRDT) (x:QT11):Bool:=okB (Zxe l x).val
def ZJF:En:=Zi ZCK Zud (λa=>some (Zxf a.1 a.2)) (λa=>ZHC a.1 a.2)
theorem ZHA:Zd prog 250 ZJF:=
 pureP 16447 [(254,ZaL),(334,Zx2),(335,ZvU)] [] ZCK Zud ⟨Zbi,ZAy,Zr4,Tv⟩ Tryz.func250 Tryz.call250 trivial (t:=λa=>Zxe a.1 a.2)
abbrev ZqO:List Sh:=[Sh.agg (R.Pq (R.Pq ZX (R.Pq (R.int i64) (R.Pq (R.sl (R.int u8)) (R.Pq (RY) (R.Pq (R.int i64) R.bool))))) (R.Pq rcCE (R.Pq ZaQ (R.Pq (R.Pq (R.int u16) (R.Pq (R.int u8) (R.int i64))) (R.Pq (R.int i64) (R.sl (R.Pq (R.int u8) (R.int u8))))))))]
abbrev ZqP:Rs:=Rs.one (Sh.one (R.int i64))
def Zxa (s:SYST):RT (Int):=
 .br (ZU s.1 !=7) (.Lf (0)) (.Lf (i64.wrap (s.2.2.2.2.1+1)))
def Zgd (s:SYST):Int:=(Zxa s).val
def ZnM:En:=Zi ZqO ZqP (λ_=>none) (λa=>Zgd a)
theorem Zmv:Zd prog 176 ZnM:=
 pureQ 7 [(109,Zev)] [] ZqO ZqP ⟨Zdp,Tv⟩ Tryz.func176 Tryz.call176 trivial (t:=λa=>Zxa a)
abbrev ZqR:List Sh:=[Sh.agg (R.Pq (R.int i64) (R.Pq rcRG (R.Pq (R.int i64) (R.Pq (R.int u8) (R.Pq (R.int u8) (R.Pq R.bool rcCE)))))),Sh.agg (R.Pq (R.Pq ZX (R.Pq (R.int i64) (R.Pq (R.sl (R.int u8)) (R.Pq (RY) (R.Pq (R.int i64) R.bool))))) (R.Pq rcCE (R.Pq ZaQ (R.Pq (R.Pq (R.int u16) (R.Pq (R.int u8) (R.int i64))) (R.Pq (R.int i64) (R.sl (R.Pq (R.int u8) (R.int u8)))))))),Sh.agg ZcP]
abbrev Zjy:Rs:=Rs.one (Sh.agg ZuL)
def ZgD (l:BRDT) (s:SYST) (i:INPT):RT (Option LINT):=
 let x1:=bif i.2.1 then i.2.2.2.1 else i.2.2.2.1
 let x2:=bif i.2.1 then i.2.2.2.2.1 else i.2.2.2.2.1
 let x3:=bif i.2.1 then i.2.2.2.2.2.1 else i.2.2.2.2.2.1
 let x4:=bif i.2.1 then i.2.2.2.2.2.2.1 else i.2.2.2.2.2.2.1
 let x5:=bif i.2.1 then i.2.2.2.2.2.2.2.1 else i.2.2.2.2.2.2.2.1
 let x6:=bif l.2.2.2.2.2.1 then andI u8 i.2.2.2.2.2.2.2.2.1 1==1 else vInt s.2.2.1
 let x7:=bif i.2.1 then x6 else x6
 .br (ZHP s.2.2.1) (.br (!i.1||Zxf l s.1.2.2.2.1) (.Lf (some ((i.1&&bif i.2.1 then decide (Zgd s>=ZHC l s.1.2.2.2.1) else decide (Zgd s>=ZHC l s.1.2.2.2.1),bif i.1 then i.2.1||ZbT s.2.2.2.1 else i.2.1||ZbT s.2.2.2.1,bif i.1 then bif i.2.1 then i.2.2.1 else i.2.2.1 else bif i.2.1 then i.2.2.1 else i.2.2.1,bif i.1 then x1 else x1,bif i.1 then x2 else x2,bif i.1 then x3 else x3,bif i.1 then x4 else x4,bif i.1 then x5 else x5,bif i.1 then x7 else x7)))) (.Lf none)) (.Lf none)
def ZnS (l:BRDT) (s:SYST) (i:INPT):LINT:=getO Zjy.Df (ZgD l s i).val
def Zi8 (l:BRDT) (s:SYST) (i:INPT):Bool:=okB (ZgD l s i).val
def Zxg:En:=Zi ZqR Zjy (λa=>some (Zi8 a.1 a.2.1 a.2.2)) (λa=>ZnS a.1 a.2.1 a.2.2)
theorem ZAd:Zd prog 175 Zxg:=
 pureP 255 [(176,ZnM),(249,ZM6),(250,ZJF),(251,ZjL)] [] ZqR Zjy ⟨Zmv,ZLl,ZHA,ZjK,Tv⟩ Tryz.func175 Tryz.call175 trivial (t:=λa=>ZgD a.1 a.2.1 a.2.2)
abbrev Zxh:List Sh:=[Sh.agg (R.Pq (R.int i64) (R.Pq rcRG (R.Pq (R.int i64) (R.Pq (R.int u8) (R.Pq (R.int u8) (R.Pq R.bool rcCE)))))),Sh.one (R.int u8)]
abbrev Zxi:Rs:=Rs.tup [Sh.one R.bool,Sh.one R.bool]
def ZCP (l:BRDT) (p:Int):RT (Bool×Bool):=
 .Lf ((bif !l.2.2.2.2.2.1 then bif p==l.2.2.2.1 then p==u8.wrap (l.2.2.2.1+1) else p==u8.wrap (l.2.2.2.1+1) else p==u8.wrap (l.2.2.2.1+1),!l.2.2.2.2.2.1&&(p==l.2.2.2.1||p==u8.wrap (l.2.2.2.1+1))))
def ZcU (l:BRDT) (p:Int):Bool×Bool:=(ZCP l p).val
def Zue:En:=Zi Zxh Zxi (λ_=>none) (λa=>ZcU a.1 a.2)
theorem ZqS:Zd prog 252 Zue:=
 pureQ 63 [] [] Zxh Zxi trivial Tryz.func252 Tryz.call252 trivial (t:=λa=>ZCP a.1 a.2)
abbrev Zxj:List Sh:=[Sh.agg (R.Pq (R.int i64) (R.Pq rcRG (R.Pq (R.int i64) (R.Pq (R.int u8) (R.Pq (R.int u8) (R.Pq R.bool rcCE)))))),Sh.one (R.int u8)]
abbrev Zxk:Rs:=Rs.tup [Sh.one (R.int i64),Sh.one R.bool]
def ZCQ (l:BRDT) (p:Int):RT (Int×Bool):=
 .Lf ((i64.wrap (u8.wrap (p-l.2.2.2.2.1)),decide (u8.wrap (p-l.2.2.2.2.1)<4)))
def ZeP (l:BRDT) (p:Int):Int×Bool:=(ZCQ l p).val
def Zuf:En:=Zi Zxj Zxk (λ_=>none) (λa=>ZeP a.1 a.2)
theorem ZqT:Zd prog 253 Zuf:=
 pureQ 127 [] [] Zxj Zxk trivial Tryz.func253 Tryz.call253 trivial (t:=λa=>ZCQ a.1 a.2)
abbrev ZJH:List Sh:=[Sh.agg (R.Pq (R.int i64) (R.Pq rcRG (R.Pq (R.int i64) (R.Pq (R.int u8) (R.Pq (R.int u8) (R.Pq R.bool rcCE)))))),Sh.agg (R.Pq (R.Pq ZX (R.Pq (R.int i64) (R.Pq (R.sl (R.int u8)) (R.Pq (RY) (R.Pq (R.int i64) R.bool))))) (R.Pq rcCE (R.Pq ZaQ (R.Pq (R.Pq (R.int u16) (R.Pq (R.int u8) (R.int i64))) (R.Pq (R.int i64) (R.sl (R.Pq (R.int u8) (R.int u8)))))))),Sh.agg ZcP]
abbrev ZCZ:Rs:=Rs.tup [Sh.agg (R.Pq (R.Pq ZX (R.Pq (R.int i64) (R.Pq (R.sl (R.int u8)) (R.Pq (RY) (R.Pq (R.int i64) R.bool))))) (R.Pq rcCE (R.Pq ZaQ (R.Pq (R.Pq (R.int u16) (R.Pq (R.int u8) (R.int i64))) (R.Pq (R.int i64) (R.sl (R.Pq (R.int u8) (R.int u8)))))))),Sh.one (R.int u8)]
def ZCY (l:BRDT) (s:SYST) (i:INPT):RT (Option (SYST×Int)):=
 let x1:=decide (s.1.2.2.2.1.1>=1)&&decide (s.1.2.2.2.1.1<=5)
 let x2:= !x1||smG l.2.1&&smC s.2.1
 let x3:= !x2
 let x4:=s.1.2.2.2.1.1 !=6&&l.2.2.2.2.2.1
 let p1:=(!(ZcU l (u8.wrap s.1.2.2.2.1.2.1)).2)::(s.1.2.2.2.1.1 !=6)::x4::x1::[]
 let x5:=x1||(x4||(!s.1.2.2.2.1.1 !=6||ZHS s.2.2.1))
 let x6:= !x5
 let x7:=orR p1 (ZxC s.2.2.1 (ZcU l (u8.wrap s.1.2.2.2.1.2.1)).1)
 let p2:=(!(ZeP l (u8.wrap s.1.2.2.2.1.2.1)).2)::((ZcU l (u8.wrap s.1.2.2.2.1.2.1)).2)::(s.1.2.2.2.1.1 !=6)::x4::x1::(!x7)::x6::x3::[]
 let x8:=ZHJ s.2.2.1 (ZcU l (u8.wrap s.1.2.2.2.1.2.1)).1
 let x9:=x8.1
 .br (i.2.2.1||(ZU s.1 !=3|| !Zba s.1.2.2.2.1.1)) (.Lf (some ((s,0)))) (.br (orR p2 (Zn7 s.2.2.2.1 (ZeP l (u8.wrap s.1.2.2.2.1.2.1)).1)) (.br (x3||(x6||x7)) (.br (x3||x5) (.br (x2) (.Lf (some (((s.1,s.2.1,(R.sel ZaQ x1 s.2.2.1 (R.sel ZaQ x4 s.2.2.1 (R.sel ZaQ (s.1.2.2.2.1.1 !=6) (vAck s.2.2.1).1 (R.sel ZaQ ((ZcU l (u8.wrap s.1.2.2.2.1.2.1)).2) x9 s.2.2.1)))),s.2.2.2),bif x1 then ZmS l.2.1 s.2.1 s.1.2.2.2.1.2.1 else bif x4 then i.2.2.2.2.2.2.2.2.2 else bif s.1.2.2.2.1.1 !=6 then (vAck s.2.2.1).2 else bif (ZcU l (u8.wrap s.1.2.2.2.1.2.1)).2 then x8.2 else bif (ZeP l (u8.wrap s.1.2.2.2.1.2.1)).2 then ZDd s.2.2.2.1 (ZeP l (u8.wrap s.1.2.2.2.1.2.1)).1 else i.2.2.2.2.2.2.2.2.2)))) (.Lf none)) (.Lf none)) (.Lf none)) (.Lf none))
def wBus (l:BRDT) (s:SYST) (i:INPT):SYST×Int:=getO ZCZ.Df (ZCY l s i).val
def ZHF (l:BRDT) (s:SYST) (i:INPT):Bool:=okB (ZCY l s i).val
def ZM1:En:=Zi ZJH ZCZ (λa=>some (ZHF a.1 a.2.1 a.2.2)) (λa=>wBus a.1 a.2.1 a.2.2)
theorem ZLb:Zd prog 177 ZM1:=
 pureP 4956598223910189960238497791 [(109,Zev),(167,Zkd),(252,Zue),(253,Zuf),(254,ZaL),(255,Zym),(256,ZM7),(257,ZJL),(258,ZDc)] [] ZJH ZCZ ⟨Zdp,Zg1,ZqS,ZqT,Zbi,ZAI,ZLo,ZHH,ZDa,Tv⟩ Tryz.func177 Tryz.call177 trivial (t:=λa=>ZCY a.1 a.2.1 a.2.2)
abbrev Zxc:List Sh:=[Sh.agg (R.Pq (R.int i64) (R.Pq rcRG (R.Pq (R.int i64) (R.Pq (R.int u8) (R.Pq (R.int u8) (R.Pq R.bool rcCE)))))),Sh.agg (R.Pq (R.Pq ZX (R.Pq (R.int i64) (R.Pq (R.sl (R.int u8)) (R.Pq (RY) (R.Pq (R.int i64) R.bool))))) (R.Pq rcCE (R.Pq ZaQ (R.Pq (R.Pq (R.int u16) (R.Pq (R.int u8) (R.int i64))) (R.Pq (R.int i64) (R.sl (R.Pq (R.int u8) (R.int u8)))))))),Sh.agg (RY)]
abbrev ZnQ:Rs:=Rs.one (Sh.agg (R.Pq (R.Pq ZX (R.Pq (R.int i64) (R.Pq (R.sl (R.int u8)) (R.Pq (RY) (R.Pq (R.int i64) R.bool))))) (R.Pq rcCE (R.Pq ZaQ (R.Pq (R.Pq (R.int u16) (R.Pq (R.int u8) (R.int i64))) (R.Pq (R.int i64) (R.sl (R.Pq (R.int u8) (R.int u8)))))))))
def Zjx (l:BRDT) (s:SYST) (x:QT11):RT (Option SYST):=
 let x1:List (Int×Int):=[]++s.2.2.2.2.2++[(u8.wrap x.2.1,x.2.2.1)]
 let x2:=ZC5 s.2.2.1 (ZcU l (u8.wrap x.2.1)).1 x.2.2.1
 let x30:=Zuk s.2.2.2.1 (ZeP l (u8.wrap x.2.1)).1 x.2.2.1
 .br (!x.1 !=7||smG l.2.1&&smC s.2.1) (.br (x.1 !=7) (.Lf (some ((s.1,ZdR l.2.1 s.2.1 x.2.1 x.2.2.1,s.2.2)))) (.br (!Nat.ble (List.length ([]++s.2.2.2.2.2)) most||Nat.ble (List.length x1) most) (.br (Nat.ble (List.length ([]++s.2.2.2.2.2)) most) (.br (!(ZcU l (u8.wrap x.2.1)).2||Zn4 s.2.2.1 (ZcU l (u8.wrap x.2.1)).1 x.2.2.1) (.Lf (some ((s.1,s.2.1,(R.sel ZaQ ((ZcU l (u8.wrap x.2.1)).2) x2 s.2.2.1),(R.sel ZNj ((ZcU l (u8.wrap x.2.1)).2) s.2.2.2.1 (R.sel ZNj ((ZeP l (u8.wrap x.2.1)).2) x30 s.2.2.2.1)),s.2.2.2.2.1,x1)))) (.Lf none)) (.Lf none)) (.Lf none))) (.Lf none)
def Zxd (l:BRDT) (s:SYST) (x:QT11):SYST:=getO ZnQ.Df (Zjx l s x).val
def ZnR (l:BRDT) (s:SYST) (x:QT11):Bool:=okB (Zjx l s x).val
def ZCB:En:=Zi Zxc ZnQ (λa=>some (ZnR a.1 a.2.1 a.2.2)) (λa=>Zxd a.1 a.2.1 a.2.2)
theorem ZCz:Zd prog 180 ZCB:=
 pureP 4095 [(95,Zj1),(252,Zue),(253,Zuf),(266,ZC4),(267,Zxw)] [] Zxc ZnQ ⟨Zj0,ZqS,ZqT,ZC2,ZAi,Tv⟩ Tryz.func180 Tryz.call180 trivial (t:=λa=>Zjx a.1 a.2.1 a.2.2)
abbrev Zxn:List Sh:=[Sh.agg (R.Pq (R.int i64) (R.Pq rcRG (R.Pq (R.int i64) (R.Pq (R.int u8) (R.Pq (R.int u8) (R.Pq R.bool rcCE)))))),Sh.agg (R.Pq (R.Pq ZX (R.Pq (R.int i64) (R.Pq (R.sl (R.int u8)) (R.Pq (RY) (R.Pq (R.int i64) R.bool))))) (R.Pq rcCE (R.Pq ZaQ (R.Pq (R.Pq (R.int u16) (R.Pq (R.int u8) (R.int i64))) (R.Pq (R.int i64) (R.sl (R.Pq (R.int u8) (R.int u8)))))))),Sh.agg ZcP]
abbrev ZnW:Rs:=Rs.tup [Sh.agg (R.Pq (R.Pq ZX (R.Pq (R.int i64) (R.Pq (R.sl (R.int u8)) (R.Pq (RY) (R.Pq (R.int i64) R.bool))))) (R.Pq rcCE (R.Pq ZaQ (R.Pq (R.Pq (R.int u16) (R.Pq (R.int u8) (R.int i64))) (R.Pq (R.int i64) (R.sl (R.Pq (R.int u8) (R.int u8)))))))),Sh.agg ZeZ,Sh.agg (R.Pq ZuL (R.Pq (R.int u8) (R.Pq (R.Pq (R.int u16) (R.int u8)) R.bool)))]
def ZjE (l:BRDT) (s:SYST) (i:INPT):RT (Option (QT26)):=
 let x1:=ZxG s.2.2.1 i.2.2.2.2.2.2.2.2.1
 let x29:SYST:=(s.1,s.2.1,(R.sel ZaQ (!l.2.2.2.2.2.1) x1 s.2.2.1),s.2.2.2)
 let x30:=wBus l x29 i
 let x31:=x30.1
 let x32:=x31.1
 let x33:= !i.2.2.1&&(ZU s.1==3&&ZbF s.1.2.2.2.1.1)
 let x34:=ZnS l x29 i
 let x35:=x30.2
 let x36:=clkX x32 x34 x35
 let x37:=x36.1
 let x38:=x31.2
 let x39:=x38.1
 let x40:=x38.2
 let x41:=x40.1
 let x42:=x40.2
 let x43:=x42.1
 let x44:=Zgd x29
 let x45:=x42.2.2
 let x46:SYST:=(x37,x39,x41,x43,x44,x45)
 let x47:=x36.2
 let x48:=x47.2.2.2.2.2.2.2.2.2.2.2.2.2.2.2.1
 let x49:=Zxd l x46 s.1.2.2.2.1
 let x50:=x49.2
 let x51:=x50.2
 let x52:=x51.2
 let x53:=x52.1
 let x54:Int:=bif x33 then x53.1 else x43.1
 let x55:=x53.2
 let x56:=x43.2
 let x57:Int:=bif x33 then x55.1 else x56.1
 let x58:Int:=bif x33 then x55.2 else x56.2
 let x59:=ZgJ (x54,x57,x58)
 let x60:=x59.2
 let x61:=x60.2
 let x62:List (Int×Int):=bif x33 then x50.1 else x39
 let x63:=x49.1
 let x64:=x63.1
 let x65:=x37.1
 let x118:=x63.2
 let x119:=x37.2
 let x120:=x118.2
 let x121:=x119.2
 let x122:=x120.2
 let x123:=x122.1
 let x124:=x121.2
 let x125:=x124.1
 let x130:=x122.2
 let x131:=x124.2
 let x132:=x60.1
 let x133:=x132.1
 let x134:=x132.2
 let x135:=x51.1
 let x136:=x135.2
 let x137:=x41.2
 let x138:=x136.2
 let x139:=x137.2
 let x140:=x138.2
 let x141:=x139.2
 let x142:=x140.2
 let x143:=x141.2
 let x144:=x142.2
 let x145:=x143.2
 let x146:=x144.2
 let x147:=x145.2
 let x148:=x146.2
 let x149:=x147.2
 let x150:=x148.2
 let x151:=x149.2
 let x152:=x150.2
 let x153:=x151.2
 let x154:=x152.2
 let x155:=x153.2
 let x156:=x154.2
 let x157:=x155.2
 let x158:=x156.2
 let x159:=x157.2
 let x160:=x158.2
 let x161:=x159.2
 let x162:=x160.2
 let x163:=x161.2
 let x164:=x162.2
 let x165:=x163.2
 let x166:=x164.2
 let x167:=x165.2
 let x168:=x166.2
 let x169:=x167.2
 let x170:=x168.2
 let x171:=x169.2
 let x172:=x59.1
 let x173:=x172.2
 let x174:=x52.2
 .br (Zi8 l x29 i) (.br (ZHF l x29 i) (.br (ZDZ x32) (.br (!x33||ZnR l x46 s.1.2.2.2.1) (.br (!x48||(!x61||smG l.2.1&&smC x62)) (.Lf (some (((((R.sel ZX x33 x64 x65),bif x33 then x118.1 else x119.1,bif x33 then x120.1 else x121.1,(R.sel RY x33 x123 x125),bif x33 then x130.1 else x131.1,bif x33 then x130.2 else x131.2),bif x48 then bif x61 then ZdR l.2.1 x62 x133 x134 else x62 else x62,(bif x33 then x135.1 else x41.1,bif x33 then x136.1 else x137.1,bif x33 then x138.1 else x139.1,bif x33 then x140.1 else x141.1,bif x33 then x142.1 else x143.1,bif x33 then x144.1 else x145.1,bif x33 then x146.1 else x147.1,bif x33 then x148.1 else x149.1,bif x33 then x150.1 else x151.1,bif x33 then x152.1 else x153.1,bif x33 then x154.1 else x155.1,bif x33 then x156.1 else x157.1,bif x33 then x158.1 else x159.1,bif x33 then x160.1 else x161.1,bif x33 then x162.1 else x163.1,bif x33 then x164.1 else x165.1,bif x33 then x166.1 else x167.1,bif i.2.2.1 then 0 else bif x33 then x168.1 else x169.1,bif x33 then x170.1 else x171.1,bif x33 then x170.2 else x171.2),(bif x48 then bif x61 then x172.1 else x54 else x54,bif x48 then bif x61 then x173.1 else x57 else x57,bif i.2.2.1 then 0 else bif x48 then bif x61 then x173.2 else x58 else x58),bif x33 then x174.1 else x44,bif x33 then x174.2 else x45),x47,x34,x35,(bif x48 then bif x61 then x133 else 0 else 0,bif x48 then bif x61 then x134 else 0 else 0),x48&&x61)))) (.Lf none)) (.Lf none)) (.Lf none)) (.Lf none)) (.Lf none)
def Zxo (l:BRDT) (s:SYST) (i:INPT):QT26:=getO ZnW.Df (ZjE l s i).val
def ZnX (l:BRDT) (s:SYST) (i:INPT):Bool:=okB (ZjE l s i).val
def Zui:En:=Zi Zxn ZnW (λa=>some (ZnX a.1 a.2.1 a.2.2)) (λa=>Zxo a.1 a.2.1 a.2.2)
theorem ZqZ:Zd prog 108 Zui:=
 pureP 131071 [(95,Zj1),(109,Zev),(174,ZDi),(175,Zxg),(176,ZnM),(177,ZM1),(178,ZyW),(179,Zop),(180,ZCB),(181,ZmA)] [] Zxn ZnW ⟨Zj0,Zdp,ZDg,ZAd,Zmv,ZLb,ZBH,ZmT,ZCz,Zq6,Tv⟩ Tryz.func108 Tryz.call108 trivial (t:=λa=>ZjE a.1 a.2.1 a.2.2)
abbrev Zmy:List Sh:=[Sh.agg (R.Pq ZX (R.Pq (R.int i64) (R.Pq (R.sl (R.int u8)) (R.Pq (RY) (R.Pq (R.int i64) R.bool))))),Sh.one (R.int i64),Sh.one (R.int u8)]
abbrev Zmz:Rs:=Rs.one (Sh.agg (RY))
def ZgG (c:CORT) (s:Int) (d:Int):RT TY:=
 let x1:Int:=bif Zba c.2.2.2.1.1 then d else c.2.2.2.1.2.2.1
 .Lf ((c.2.2.2.1.1,c.2.2.2.1.2.1,bif s==3 then x1 else c.2.2.2.1.2.2.1,bif s==3 then bif c.2.2.2.1.1==1||c.2.2.2.1.1==8 then Zg8 c.1.1 x1 else c.2.2.2.1.2.2.2 else c.2.2.2.1.2.2.2))
def ZP (c:CORT) (s:Int) (d:Int):QT11:=(ZgG c s d).val
def ZgH:En:=Zi Zmy Zmz (λ_=>none) (λa=>ZP a.1 a.2.1 a.2.2)
theorem Zgg:Zd prog 111 ZgH:=
 pureQ 255 [(167,Zkd),(168,ZvZ)] [] Zmy Zmz ⟨Zg1,Zr7,Tv⟩ Tryz.func111 Tryz.call111 trivial (t:=λa=>ZgG a.1 a.2.1 a.2.2)
abbrev ZCL:List Sh:=[Sh.one (R.int i64)]
abbrev ZCN:Rs:=Rs.one (Sh.one (R.int i64))
def ZCM (s:Int):RT (Int):=
 .br (Za s) (.Lf (3)) (.br (s==5) (.Lf (2)) (.Lf (1)))
def Zjz (s:Int):Int:=(ZCM s).val
def ZCO:En:=Zi ZCL ZCN (λ_=>none) (λa=>Zjz a)
theorem ZHD:Zd prog 185 ZCO:=
 pureQ 79 [(236,ZfD)] [] ZCL ZCN ⟨Ze6,Tv⟩ Tryz.func185 Tryz.call185 trivial (t:=λa=>ZCM a)
abbrev ZCu:List Sh:=[Sh.agg ZAw,Sh.agg ZX,Sh.agg ZuL]
abbrev ZCv:Rs:=Rs.one (Sh.agg ZAw)
def ZJC (e:EVTT) (c:TC) (l:LINT):RT EVTT:=
 .Lf ((e.1,e.2.1,e.2.2.1,l,c.2.2.2.2.2.2.2.1,c.2.2.2.2.2.2.1,c.2.2.2.2.2.2.2.2.2.1,c.2.2.2.2.2.2.2.2.1,e.2.2.2.2.2.2.2.2))
def ZeO (e:EVTT) (c:TC) (l:LINT):EVTT:=(ZJC e c l).val
def ZCw:En:=Zi ZCu ZCv (λ_=>none) (λa=>ZeO a.1 a.2.1 a.2.2)
theorem ZHy:Zd prog 183 ZCw:=
 pureQ 127 [] [] ZCu ZCv trivial Tryz.func183 Tryz.call183 trivial (t:=λa=>ZJC a.1 a.2.1 a.2.2)
abbrev Zxr:List Sh:=[Sh.agg (R.Pq ZX (R.Pq (R.int i64) (R.Pq (R.sl (R.int u8)) (R.Pq (RY) (R.Pq (R.int i64) R.bool))))),Sh.one (R.int i64),Sh.one (R.int u8)]
abbrev ZnY:Rs:=Rs.one (Sh.one (R.sl (R.int u8)))
def ZjG (c:CORT) (s:Int) (d:Int):RT (Option (List Int)):=
 let x1:List Int:=[]++c.2.2.1++[(ZP c s d).2.2.1]
 .br (Nat.ble (List.length ([]++c.2.2.1)) most) (.br (!s==3||Nat.ble (List.length x1) most) (.Lf (some (bif s==3 then x1 else []++c.2.2.1))) (.Lf none)) (.Lf none)
def Zxs (c:CORT) (s:Int) (d:Int):List Int:=getO ZnY.Df (ZjG c s d).val
def ZnZ (c:CORT) (s:Int) (d:Int):Bool:=okB (ZjG c s d).val
def Zuj:En:=Zi Zxr ZnY (λa=>some (ZnZ a.1 a.2.1 a.2.2)) (λa=>Zxs a.1 a.2.1 a.2.2)
theorem ZCW:Zd prog 186 Zuj:=
 pureP 255 [(111,ZgH)] [] Zxr ZnY ⟨Zgg,Tv⟩ Tryz.func186 Tryz.call186 trivial (t:=λa=>ZjG a.1 a.2.1 a.2.2)
abbrev ZjA:List Sh:=[Sh.agg (R.Pq ZX (R.Pq (R.int i64) (R.Pq (R.sl (R.int u8)) (R.Pq (RY) (R.Pq (R.int i64) R.bool))))),Sh.agg ZuL,Sh.one (R.int u8)]
abbrev Zge:Rs:=Rs.tup [Sh.agg ZX,Sh.one R.bool]
def ZdY (c:CORT) (l:LINT) (d:Int):RT (Option (TC×Bool)):=
 let x1:TC×Bool:=((0,(0,0,0,0,0,0,0,(false,false,false,false,false,false,false),0,0),false,false,false,0,false,false,false,false,false,false,false),false)
 .br l.2.2.1 (.Lf (some (x1))) (.br (Zd7 c c.2.2.2.2.1 d) (.br (!Zh4 c.2.2.2.2.1 (Zgo c c.2.2.2.2.1 d).1) (.Lf (some (x1))) (.br (Zg (Zf c.1 l) c.2.1 (Zgo c c.2.2.2.2.1 d).2).2 (.Lf (some (x1))) (.Lf (some ((finX (Zf c.1 l) c.2.1 (Zgo c c.2.2.2.2.1 d).2 l,true)))))) (.Lf none))
def ZgE (c:CORT) (l:LINT) (d:Int):TC×Bool:=getO Zge.Df (ZdY c l d).val
def Zfr (c:CORT) (l:LINT) (d:Int):Bool:=okB (ZdY c l d).val
def ZhM:En:=Zi ZjA Zge (λa=>some (Zfr a.1 a.2.1 a.2.2)) (λa=>ZgE a.1 a.2.1 a.2.2)
theorem ZqU:Zd prog 184 ZhM:=
 pureP 16383 [(164,ZLW),(166,ZyE),(187,ZkX),(263,ZEg),(264,ZFb)] [] ZjA Zge ⟨ZEY,ZoO,ZkW,Zyl,ZyT,Tv⟩ Tryz.func184 Tryz.call184 trivial (t:=λa=>ZdY a.1 a.2.1 a.2.2)
def ZbW:En:=.tree (ZaH (envX prog [] [] 541622271 8) Tryz.f110)
theorem ZcF:Zd prog 110 ZbW:=Zb3 (P:=prog) (n:=541622271) (k:=8) (l:=[]) (ol:=[]) trivial Tryz.func110 rfl (by kernel_rfl) Tryz.call110 trivial
def Zb8:En:=.tree (ZaH (envX prog [] [] 63 8) Tryz.f182)
theorem ZfX:Zd prog 182 Zb8:=Zb3 (P:=prog) (n:=63) (k:=8) (l:=[]) (ol:=[]) trivial Tryz.func182 rfl (by kernel_rfl) Tryz.call182 trivial
def Zbn:En:=.tree (ZaH (envX prog [(109,Zev),(113,Zr9),(182,Zb8),(183,ZCw),(184,ZhM),(185,ZCO),(186,Zuj),(187,ZkX)] [] 32767 8) Tryz.f112)
theorem Zb7:Zd prog 112 Zbn:=Zb3 (P:=prog) (n:=32767) (k:=8) (l:=[(109,Zev),(113,Zr9),(182,Zb8),(183,ZCw),(184,ZhM),(185,ZCO),(186,Zuj),(187,ZkX)]) (ol:=[]) ⟨Zdp,ZpH,ZfX,ZHy,ZqU,ZHD,ZCW,ZkW,Tv⟩ Tryz.func112 rfl (by kernel_rfl) Tryz.call112 trivial
abbrev ZJD:List Sh:=[Sh.agg (R.Pq (R.int i64) (R.Pq rcRG (R.Pq (R.int i64) (R.Pq (R.int u8) (R.Pq (R.int u8) (R.Pq R.bool rcCE)))))),Sh.one (R.sl (R.int u8))]
abbrev ZCE:Rs:=Rs.tup [Sh.agg (R.Pq (R.sl ZeZ) (R.Pq (R.sl Z0) (R.Pq (R.sl ZAw) (R.Pq (R.sl ZX) (R.Pq (R.Pq ZX (R.Pq (R.int i64) (R.Pq (R.sl (R.int u8)) (R.Pq (RY) (R.Pq (R.int i64) R.bool))))) (R.Pq rcCE (R.Pq ZaQ (R.Pq (R.Pq (R.int u16) (R.Pq (R.int u8) (R.int i64))) (R.Pq (R.int i64) (R.sl (R.Pq (R.int u8) (R.int u8)))))))))))),Sh.one (R.int i64)]
def ZK7:LS:={n:=119,Sl:=[(2,.fix (A.loc 0 0)),(4,.fix (A.loc 1 0)),(6,.fix (A.loc 2 0)),(8,.fix (A.loc 3 0)),(9,.fix (A.loc 4 0)),(32,.code (Sh.one (R.sl ZcP))),(33,.code (Sh.one (R.int i64))),(34,.code (Sh.one (R.int i64)))],Bx:=[[.many (R.Pq (R.int i64) (R.Pq rcRG (R.Pq (R.int i64) (R.Pq (R.int u8) (R.Pq (R.int u8) (R.Pq R.bool rcCE))))))],[.many (R.Pq (R.sl ZeZ) (R.Pq (R.sl Z0) (R.Pq (R.sl ZAw) (R.Pq (R.sl ZX) (R.Pq (R.Pq ZX (R.Pq (R.int i64) (R.Pq (R.sl (R.int u8)) (R.Pq (RY) (R.Pq (R.int i64) R.bool))))) (R.Pq rcCE (R.Pq ZaQ (R.Pq (R.Pq (R.int u16) (R.Pq (R.int u8) (R.int i64))) (R.Pq (R.int i64) (R.sl (R.Pq (R.int u8) (R.int u8))))))))))))],[.many (R.Pq (R.Pq ZX (R.Pq (R.int i64) (R.Pq (R.sl (R.int u8)) (R.Pq (RY) (R.Pq (R.int i64) R.bool))))) (R.Pq rcCE (R.Pq ZaQ (R.Pq (R.Pq (R.int u16) (R.Pq (R.int u8) (R.int i64))) (R.Pq (R.int i64) (R.sl (R.Pq (R.int u8) (R.int u8))))))))],[.tip 0,.tip 1,.tip 2,.tip 3,.many (R.Pq (R.Pq ZX (R.Pq (R.int i64) (R.Pq (R.sl (R.int u8)) (R.Pq (RY) (R.Pq (R.int i64) R.bool))))) (R.Pq rcCE (R.Pq ZaQ (R.Pq (R.Pq (R.int u16) (R.Pq (R.int u8) (R.int i64))) (R.Pq (R.int i64) (R.sl (R.Pq (R.int u8) (R.int u8))))))))],[.many ZX]],Sg:=[⟨R.Pq (R.int i64) (R.Pq (R.int u16) (R.Pq (R.int u8) (R.Pq R.bool (R.Pq R.bool (R.Pq R.bool (R.Pq R.bool (R.Pq R.bool ZuL))))))),119,false⟩,⟨R.Pq (R.int i64) (R.Pq (RY) (R.Pq (R.int i64) (R.Pq (R.int i64) (R.Pq R.bool R.bool)))),70,false⟩,⟨R.Pq (R.int i64) (R.Pq (R.int i64) (R.Pq (R.sl (R.int u8)) (R.Pq ZuL (R.Pq R.bool (R.Pq R.bool (R.Pq R.bool (R.Pq R.bool (R.Pq (R.int u16) (R.int u8))))))))),77,false⟩,⟨R.Pq (R.int i64) (R.Pq ZjY (R.Pq R.bool (R.Pq R.bool (R.Pq R.bool (R.Pq (R.int u8) rcF7))))),38,false⟩]}
def Zeo (a:List INPT×Int×Int×BRDT×RUNT×SYST×SYST×TC×List PINT×List ITMT×List EVTT×List TC×PUnit):RT (Option (Go1 (List INPT×Int×Int×BRDT×RUNT×SYST×SYST×TC×List PINT×List ITMT×List EVTT×List TC×PUnit))):=
 let x1:INPT:=R.get ZcP a.1 a.2.2.1
 let x2:=ZnX a.2.2.2.1 a.2.2.2.2.2.1 x1
 let x3:= !x2
 let x4:=Zxo a.2.2.2.1 a.2.2.2.2.2.1 x1
 let x5:=x4.2
 let x6:List PINT:=a.2.2.2.2.2.2.2.2.1++[x5.1]
 let x7:=Nat.ble (List.length x6) most
 let x8:= !x7
 let x9:Int:=bif x1.2.2.1 then 10 else ZU a.2.2.2.2.2.1.1
 let x10:=x9==8
 let x11:=x9==9
 let x12:=x9==10
 let x13:Int:=bif x10 then 2 else bif x11 then 3 else bif x12 then 4 else 1
 let x14:=x13 !=1
 let x15:= !x14
 let x16:=i64.wrap (iN (List.length a.2.2.2.2.2.2.2.2.2.1)-1)
 let x17:=decide (x16>=0)
 let x18:= !x17
 let x19:=Ze x16 (List.length a.2.2.2.2.2.2.2.2.2.1)
 let x20:=x18||x19
 let x21:= !x20
 let x22:ITMT:=R.get Z0 a.2.2.2.2.2.2.2.2.2.1 x16
 let x23:=x22.1
 let x24:=x23==x13
 let x25:= !x24
 let x26:=x18||(x25||x19)
 let x27:=x22.2
 let x28:=x27.2
 let x29:=x28.2
 let x30:=x29.2
 let x31:=x30.1==a.2.2.2.2.2.1.1.1.2.2.1
 let p8:=(!x31)::x25::x18::(!x26)::x21::x15::[]
 let x32:=orR p8 x19
 let x33:= !x32
 let x34:=x15||(x21||x26)
 let x35:= !x34
 let x36:=x15||x20
 let x37:= !x36
 let x38:=a.2.2.2.2.2.1.1.1.2.2.2.2.2.2.2.2.2.2.2.2
 let x39:=x17&&(x24&&(x31&&x30.2==x38))
 let x40:= !x39
 let x41:= !x19
 let x42:=x15||(x40||(x41||x19))
 let x43:= !x42
 let p1:=x43::x37::x35::x33::[]
 let x44:=x15||(x40||x19)
 let x45:= !x44
 let p9:=x14::x45::p1
 let p12:=x39::x15::x45::p1
 let x46:=x5.2
 let x47:=x46.2
 let x48:=x47.1
 let x49:=ZP a.2.2.2.2.2.1.1 x9 x48
 let x50:=x49.2
 let x51:=x50.2
 let x52:QT11:=(bif x10 then 0 else bif x11 then 0 else bif x12 then 0 else x49.1,bif x10 then 0 else bif x11 then a.2.2.2.2.2.1.1.1.2.1.2.2.2.2.2.2.2.2.2 else bif x12 then 0 else x50.1,bif x10 then 0 else bif x11 then 0 else bif x12 then 0 else x51.1,bif x10 then 0 else bif x11 then 0 else bif x12 then 0 else x51.2)
 let x53:List ITMT:=a.2.2.2.2.2.2.2.2.2.1++[(x13,x52,0,1,a.2.2.2.2.2.1.1.1.2.2.1,x38)]
 let x54:=Nat.ble (List.length x53) most
 let x55:=orR p12 x54
 let x56:= !x55
 let p3:=x56::x8::x3::(!Ze a.2.2.1 (List.length a.1))::[]
 let x57:=x9==1
 let x58:= !x57||x54
 let x59:= !x58
 let p15:=x57::x59::p9
 let p17:=x41::p15
 let x60:=x9==7
 let x61:= !x60
 let x62:=setI a.2.2.2.2.2.2.2.2.2.1 x16 (x23,x52,x28)
 let x63:=Ze x16 (List.length x62)
 let x64:= !x63||x63
 let x65:=x61||x64
 let x66:= !x65
 let p21:=x66::p17
 let x67:=x61||x63
 let x68:= !x67
 let p24:=x68::p21
 let x69:=x60||x64
 let p28:=x60::(!x69)::p24
 let x70:=orR p28 x63
 let x71:= !x70
 let p6:=x71::p3
 let x72:=orR p24 x69
 let x73:= !x72
 let p7:=x73::p6
 let x74:=orR p21 x67
 let x75:= !x74
 let p10:=x75::p7
 let x76:=orR p17 x65
 let x77:= !x76
 let p13:=x77::p10
 let x78:=orR p15 x19
 let x79:= !x78
 let p18:=x79::p13
 let x80:=orR p9 x58
 let x81:= !x80
 let p20:=x81::p18
 let x82:=orR p1 x44
 let x83:= !x82
 let p23:=x83::p20
 let x84:=x33||(x35||(x37||x42))
 let x85:= !x84
 let p25:=x85::p23
 let x86:=x33||(x35||x36)
 let x87:= !x86
 let p27:=x87::p25
 let x88:=x33||x34
 let x89:= !x88
 let p29:=x89::p27
 let p30:=x33::p29
 let x90:Nat:=List.length a.2.2.2.2.2.2.2.2.2.2.2.1
 let x91:=iN x90
 let x92:=decide (x91>0)
 let x93:=i64.wrap (x91-1)
 let x94:= !x92||Ze x93 x90
 let x95:= !x94
 let x96:=x46.1
 let x97:=x96.2.2.1
 let x98:= !x97
 let x99:=Nat.ble (List.length ([]++a.2.2.2.2.2.1.1.2.2.1)) most
 let x100:= !x99
 let x101:LINT:=(false,false,false,false,false,false,false,false,false)
 let x102:LINT×Bool×Bool×Bool×Bool×Int×Int:=(x101,false,false,false,false,0,0)
 let x103:List EVTT:=a.2.2.2.2.2.2.2.2.2.2.1++[ZeO (6,a.2.2.2.2.2.1.1.2.1,[]++a.2.2.2.2.2.1.1.2.2.1,x102) a.2.2.2.2.2.1.1.1 x96]
 let x104:=Nat.ble (List.length x103) most
 let x105:TC:=R.get ZX a.2.2.2.2.2.2.2.2.2.2.2.1 x93
 let x151:List TC:=[(R.sel ZX x92 x105 a.2.2.2.2.2.2.2.1)]
 let x152:List TC:=a.2.2.2.2.2.2.2.2.2.2.2.1++x151
 let x153:= !x104||Nat.ble (List.length x152) most
 let p2:=(!x153)::x100::(!ZdF a.2.2.2.2.2.1.1)::x98::[]
 let x154:=orR p2 x104
 let x155:= !x154
 let x156:=x98||(!ZdF a.2.2.2.2.2.1.1||(x100||x153))
 let x157:= !x156
 let x158:=x98||(!ZdF a.2.2.2.2.2.1.1||x99)
 let x159:= !x158
 let p4:=x159::x157::x155::x95::[]
 let x160:List EVTT:=(bif ZdF a.2.2.2.2.2.1.1 then x103 else a.2.2.2.2.2.2.2.2.2.2.1)++[ZeO (4,0,[],x102) a.2.2.2.2.2.1.1.1 x96]
 let x161:=Nat.ble (List.length x160) most
 let x162:=x4.1
 let x163:List TC:=(bif ZdF a.2.2.2.2.2.1.1 then x152 else a.2.2.2.2.2.2.2.2.2.2.2.1)++[x162.1.1]
 let x164:= !x161||Nat.ble (List.length x163) most
 let x165:=x98||(!x164||x161)
 let x166:= !x165
 let p5:=x166::p4
 let x167:=x98||x164
 let x168:= !x167
 let p11:=x97::x168::p5
 let x169:=Zfr a.2.2.2.2.2.1.1 x96 x48
 let x170:= !x169
 let p14:=x170::p11
 let x171:=ZgE a.2.2.2.2.2.1.1 x96 x48
 let x172:=x171.2
 let x173:= !x172
 let x174:=ZnZ a.2.2.2.2.2.1.1 (ZU a.2.2.2.2.2.1.1) x48
 let x175:= !x174
 let x176:List EVTT:=a.2.2.2.2.2.2.2.2.2.2.1++[ZeO (Zjz a.2.2.2.2.2.1.1.2.1,a.2.2.2.2.2.1.1.2.1,Zxs a.2.2.2.2.2.1.1 (ZU a.2.2.2.2.2.1.1) x48,x102) (Zf a.2.2.2.2.2.1.1.1 x96) x96]
 let x177:=Nat.ble (List.length x176) most
 let x178:List TC:=a.2.2.2.2.2.2.2.2.2.2.2.1++[x171.1]
 let x179:= !x177||Nat.ble (List.length x178) most
 let x180:=x173||(x175||(!x179||x177))
 let x181:= !x180
 let p16:=x181::p14
 let x182:=x173||(x175||x179)
 let x183:= !x182
 let p19:=x183::p16
 let x184:=x173||x174
 let x185:= !x184
 let p22:=x185::p19
 let x186:=x47.2
 let x187:=x186.2
 let x188:= !x187
 let x189:List EVTT:=bif x172 then x176 else a.2.2.2.2.2.2.2.2.2.2.1
 let x190:List EVTT:=x189++[(5,0,[],x101,false,false,false,false,x186.1)]
 let x191:=Nat.ble (List.length x190) most
 let x192:List TC:=bif x172 then x178 else a.2.2.2.2.2.2.2.2.2.2.2.1
 let x193:List TC:=x192++x151
 let x194:= !x191||Nat.ble (List.length x193) most
 let x195:=x188||(!x194||x191)
 let p26:=x188::(!x195)::p22
 let x196:=orR p26 x194
 let x197:= !x196
 let p31:=x197::p30
 let x198:=orR p22 x195
 let x199:= !x198
 let p32:=x199::p31
 let x200:=orR p19 x184
 let x201:= !x200
 let p33:=x201::p32
 let x202:=orR p16 x182
 let x203:= !x202
 let p34:=x203::p33
 let x204:=orR p14 x180
 let x205:= !x204
 let p35:=x205::p34
 let x206:=orR p11 x169
 let x207:= !x206
 let p36:=x207::p35
 let x208:=orR p5 x167
 let x209:= !x208
 let p37:=x209::p36
 let x210:=orR p4 x165
 let x211:= !x210
 let p38:=x211::p37
 let x212:=x95||(x155||(x157||x158))
 let x213:= !x212
 let p39:=x213::p38
 let x214:=x95||(x155||x156)
 let x215:= !x214
 let p40:=x215::p39
 let x216:=x95||x154
 let p41:=(!x216)::p40
 let x217:ITMT:=R.get Z0 x62 x16
 let x218:=x217.1
 let x219:=x217.2
 let x220:=x219.1
 let x221:=x219.2
 let x222:=x221.1
 let x223:=x221.2
 .br (decide (a.2.2.1<a.2.1)) (.br (orR p41 x94) (.br (orR p40 x216) (.br (orR p39 x214) (.br (orR p38 x212) (.br (orR p37 x210) (.br (orR p36 x208) (.br (orR p35 x206) (.br (orR p34 x204) (.br (orR p33 x202) (.br (orR p32 x200) (.br (orR p31 x198) (.br (orR p30 x196) (.br (orR p29 x32) (.br (orR p27 x88) (.br (orR p25 x86) (.br (orR p23 x84) (.br (orR p20 x82) (.br (orR p18 x80) (.br (orR p13 x78) (.br (orR p10 x76) (.br (orR p7 x74) (.br (orR p6 x72) (.br (orR p3 x70) (.br (!Ze a.2.2.1 (List.length a.1)||(x3||(x8||x55))) (.br (!Ze a.2.2.1 (List.length a.1)||(x3||x7)) (.br (!Ze a.2.2.1 (List.length a.1)||x2) (.br (Ze a.2.2.1 (List.length a.1)) (.Lf (some (Go1.cont (a.1,a.2.1,i64.wrap (a.2.2.1+1),a.2.2.2.1,a.2.2.2.2.1,x162,a.2.2.2.2.2.2.1,a.2.2.2.2.2.2.2.1,x6,bif x14 then bif x39 then setI a.2.2.2.2.2.2.2.2.2.1 x16 (x23,x27.1,x28.1,i64.wrap (x29.1+1),x30) else x53 else bif x57 then x53 else bif x60 then setI x62 x16 (x218,x220,i64.wrap (x222+1),x223) else setI x62 x16 (x218,x220,x222,i64.wrap (x223.1+1),x223.2),bif x97 then x160 else bif x187 then x190 else x189,bif x97 then x163 else bif x187 then x193 else x192,PUnit.unit)))) (.Lf none)) (.Lf none)) (.Lf none)) (.Lf none)) (.Lf none)) (.Lf none)) (.Lf none)) (.Lf none)) (.Lf none)) (.Lf none)) (.Lf none)) (.Lf none)) (.Lf none)) (.Lf none)) (.Lf none)) (.Lf none)) (.Lf none)) (.Lf none)) (.Lf none)) (.Lf none)) (.Lf none)) (.Lf none)) (.Lf none)) (.Lf none)) (.Lf none)) (.Lf none)) (.Lf none)) (.Lf (some (Go1.brk (a.1,a.2.1,a.2.2.1,a.2.2.2.1,a.2.2.2.2.1,a.2.2.2.2.2.1,a.2.2.2.2.2.2.1,a.2.2.2.2.2.2.2.1,a.2.2.2.2.2.2.2.2.1,a.2.2.2.2.2.2.2.2.2.1,a.2.2.2.2.2.2.2.2.2.2.1,a.2.2.2.2.2.2.2.2.2.2.2.1,PUnit.unit))))
def ZCG:Ora:=ZcQ false ZK7 Zeo (λa=>1000000000000)
theorem ZCF:Zb6 (envX prog [(49,ZK9),(65,ZnV),(108,Zui),(109,Zev),(110,ZbW),(111,ZgH),(112,Zbn),(113,Zr9)] [] 524287 8) (.block 0 (.loop (ZaU Tryz.f53.body 0))) ZCG:=
 loopP ⟨ZCI,Zmw,ZqZ,Zdp,ZcF,Zgg,Zb7,ZpH,Tv⟩
def ZCD (b:BRDT) (l:List Int):RT (Option (RUNT×Int)):=
 let x1:SYST:=(((0,(0,0,0,0,0,0,0,(false,false,false,false,false,false,false),0,0),false,false,false,0,false,false,false,false,false,false,false),0,[],(0,0,0,0),0,false),[],(0,false,false,false,false,0,0,false,false,false,false,false,0,0,0,0,0,0,0,false),(0,0,0),0,[])
 let x2:RUNT:=([],[],[],[],x1)
 let x3:List INPT×Int×Int×BRDT×RUNT×SYST×SYST×TC×List PINT×List ITMT×List EVTT×List TC×PUnit:=(ZaK l,iN (List.length (ZaK l)),0,b,x2,(wNew b).1,x1,(wNew b).1.1.1,[],[],[],[],())
 let x4:=runF false Zeo (λa=>1000000000000) x3
 let x5:SYST×SYST×TC×List PINT×List ITMT×List EVTT×List TC×PUnit:=(getO (false,x3) x4).2.2.2.2.2.2
 let x6:=x5.1
 let x7:=x6.1
 let x8:=ZdF x7
 let x9:= !x8
 let x10:=x5.2.2
 let x11:=x10.2
 let x12:=x11.2
 let x13:=x12.2
 let x14:=x13.2.1
 let x15:Nat:=List.length x14
 let x16:=iN x15
 let x17:=decide (x16>0)
 let x18:=i64.wrap (x16-1)
 let x19:=x7.2
 let x20:List Int:=[]++x19.2.1
 let x21:=Nat.ble (List.length x20) most
 let x22:=x13.1
 let x23:List EVTT:=x22++[(7,x19.1,x20,(false,false,false,false,false,false,false,false,false),false,false,false,false,0,0)]
 let x24:TC:=R.get ZX x14 x18
 let x78:List TC:=x14++[(R.sel ZX x17 x24 (getO (false,x3) x4).2.2.2.2.2.2.2.2.1)]
 let x79:=x11.1
 let x80:=x12.1
 .br (ZHz b) (.br ((wNew b).2 !=0) (.Lf (some ((x2,(wNew b).2)))) (.br (Zi9 l) (.br (okB x4) (.br (x9||(!x17||Ze x18 x15)) (.br (x9||(!x21||Nat.ble (List.length x23) most)) (.br (x9||x21) (.br (x9||Nat.ble (List.length x78) most) (.br (x8) (.Lf (some (((x79,x80,x23,x78,x6),0)))) (.Lf (some (((x79,x80,x22,x14,x6),0))))) (.Lf none)) (.Lf none)) (.Lf none)) (.Lf none)) (.Lf none)) (.Lf none))) (.Lf none)
def wRun (b:BRDT) (l:List Int):RUNT×Int:=getO ZCE.Df (ZCD b l).val
def ZCH (b:BRDT) (l:List Int):Bool:=okB (ZCD b l).val
def ZM0:En:=Zi ZJD ZCE (λa=>some (ZCH a.1 a.2)) (λa=>wRun a.1 a.2)
theorem ZK6:Zd prog 53 ZM0:=
 pureP 524287 [(49,ZK9),(65,ZnV),(108,Zui),(109,Zev),(110,ZbW),(111,ZgH),(112,Zbn),(113,Zr9)] [(0,ZCG)] ZJD ZCE ⟨ZCI,Zmw,ZqZ,Zdp,ZcF,Zgg,Zb7,ZpH,Tv⟩ Tryz.func53 Tryz.call53 ⟨ZCF,Tv⟩ (t:=λa=>ZCD a.1 a.2)
end
end Go.Proofs.YtpnjbfjomebppaaGreat
