import Derived.Test.YtghoimllhpjkjaaGreatMemD
import Derived.RangeFuncNested
import Derived.RangeFuncLeaves
import Derived.Shelf.Abstract
import Derived.OwnWalkIn
import Derived.TacticsInMore
import Derived.LoopNIn
import Derived.LoopIn
import Derived.Test.YtghoimllhpjkjaaGreatS3Clo
import Derived.Test.YtghoimllhpjkjaaGreatMakeOk5
import Derived.Test.YtghoimllhpjkjaaGreatPicL
set_option linter.unusedVariables false
set_option linter.unusedSimpArgs false
namespace Go.Proofs.YtghoimllhpjkjaaGreat
open Go Go.S3 Go.Proofs Go.Proofs.Cells Go.RowKit Go.Shelf
attribute [local go_sem] Oper.semAt_some
noncomputable section
def Held (n₀:Nat) (W:World) (sv:Value) (l:List Cell):Prop:=
 (∃a cap,sv=.slice a 0 cap/\l=[])\/∃b off cap,sv=.slice (some ⟨b,off,none⟩) l.length cap/\b<n₀/\
  ∀j,j<l.length->W.cell? ⟨b,off+j*2,none⟩=some (.int .u16 (el l j).1)/\W.cell? ⟨b,off+j*2+1,none⟩=some (.int .u8 (el l j).2)
theorem Held.mono {n₀ n₁:Nat} {W:World} {sv:Value} {l:List Cell} (h:Held n₀ W sv l) (hn:n₀<=n₁):Held n₁ W sv l:=
 h.elim .inl λ⟨b,off,cap,e,hb,hc⟩=>.inr ⟨b,off,cap,e,by omega,hc⟩
end
end Go.Proofs.YtghoimllhpjkjaaGreat
namespace Go.Proofs.YtghoimllhpjkjaaGreat
open Go Go.S3 Go.Proofs Go.Proofs.Cells Go.RowKit Go.Shelf
attribute [local go_sem] Oper.semAt_some
noncomputable section
end
end Go.Proofs.YtghoimllhpjkjaaGreat
open Go Go.S3 Go.Proofs
set_option maxRecDepth 100000
namespace Go.Proofs.YtghoimllhpjkjaaGreat
noncomputable section
end
end Go.Proofs.YtghoimllhpjkjaaGreat
open Go Go.S3 Go.Proofs Go.Proofs.Cells
namespace Go.Proofs.YtghoimllhpjkjaaGreat
noncomputable section
end
end Go.Proofs.YtghoimllhpjkjaaGreat
open Go.Proofs.Tryz (prog)
open Go.IntKind (u8 u16 i64)
namespace Go.Proofs.YtghoimllhpjkjaaGreat
noncomputable section
abbrev Zx4:List Sh:=[Sh.one (R.int i64)]
abbrev Zx5:Rs:=Rs.one (Sh.one (R.int i64))
def ZD6 (n:Int):RT (Int):=
 .Lf (if (if 100<n then 100 else n)>0 then if 100<n then 100 else n else 0)
def ZD7 (n:Int):Int:=(ZD6 n).val
def Zvn:En:=Zi Zx4 Zx5 (λ_=>none) (λa=>ZD7 a)
theorem Zry:Zd prog 301 Zvn:=
 pureQ 7 [] [] Zx4 Zx5 trivial Tryz.func301 Tryz.call301 trivial (t:=λa=>ZD6 a)
abbrev Zn1:List Sh:=[Sh.one rcRG,Sh.one (R.int u16)]
abbrev ZiQ:Rs:=Rs.one (Sh.one (R.int i64))
def ZjK (l:List (QT9)) (t:Int):RT (Option (Int)):=
 .br (ZmR l t) (.br (!decide (ZiF l t>=0)||Ze (ZiF l t) (List.length l)) (.br (decide (ZiF l t>=0)) (.Lf (some (ZD7 (R.get (R.Pq (R.int u16) (R.Pq (R.int u16) (R.Pq R.bool (R.int i64)))) l (ZiF l t)).2.2.2))) (.Lf (some (0)))) (.Lf none)) (.Lf none)
def ZDo (l:List (QT9)) (t:Int):Int:=getO ZiQ.Df (ZjK l t).val
def Zuh (l:List (QT9)) (t:Int):Bool:=okB (ZjK l t).val
def ZKN:En:=Zi Zn1 ZiQ (λa=>some (Zuh a.1 a.2)) (λa=>ZDo a.1 a.2)
theorem ZDn:Zd prog 300 ZKN:=
 pureP 63 [(43,Zyh),(301,Zvn)] [] Zn1 ZiQ ⟨ZoB,Zry,Tv⟩ Tryz.func300 Tryz.call300 trivial (t:=λa=>ZjK a.1 a.2)
abbrev ZjM:List Sh:=[Sh.one rcRG]
abbrev ZgF:Rs:=Rs.one (Sh.one (R.int i64))
def ZzY:LS:={n:=30,Sl:=[(2,.code (Sh.one (R.int i64))),(8,.code (Sh.one rcRG)),(9,.code (Sh.one (R.int i64))),(10,.code (Sh.one (R.int i64)))],Bx:=[],Sg:=[]}
def Zc1 (a:QT21):RT (Option (Go1 (QT21))):=
 let x1:QT9:=R.get (R.Pq (R.int u16) (R.Pq (R.int u16) (R.Pq R.bool (R.int i64)))) a.2.1 a.2.2.2.1
 let x2:=x1.2
 let x3:=x2.2.2
 let x4:List (QT9)×Int×Int×PUnit:=(a.2.1,a.2.2.1,a.2.2.2.1,PUnit.unit)
 .br (decide (a.2.2.2.1<a.2.2.1)) (.br (Ze a.2.2.2.1 (List.length a.2.1)) (.br (decide (x2.1<x1.1)||(decide (x3<0)||decide (x3>100))) (.Lf (some (Go1.ret (1,x4)))) (.Lf (some (Go1.cont (a.1,a.2.1,a.2.2.1,i64.wrap (a.2.2.2.1+1),PUnit.unit))))) (.Lf none)) (.Lf (some (Go1.brk (a.1,x4))))
def Zmy:Ora:=Zdo true ZzY Zc1 (λa=>1000000000000)
theorem Zq7:Zb9 (envX prog [] [] 31 8) (.block 0 (.loop (ZaV Tryz.f247.body 0))) Zmy:=
 loopP trivial
def Zek (l:List (QT9)):RT (Option (Int)):=
 let x1:=runF true Zc1 (λa=>1000000000000) (0,l,iN (List.length l),0,())
 let x2:=getO (false,0,l,iN (List.length l),0,()) x1
 .br (decide (iN (List.length l)>16)) (.Lf (some (3))) (.br (okB x1) (.br x2.1 (.Lf (some x2.2.1)) (.Lf (some (0)))) (.Lf none))
def Zuj (l:List (QT9)):Int:=getO ZgF.Df (Zek l).val
def Zn3 (l:List (QT9)):Bool:=okB (Zek l).val
def ZHr:En:=Zi ZjM ZgF (λa=>some (Zn3 a)) (λa=>Zuj a)
theorem ZzX:Zd prog 247 ZHr:=
 pureP 31 [] [(0,Zmy)] ZjM ZgF trivial Tryz.func247 Tryz.call247 ⟨Zq7,Tv⟩ (t:=λa=>Zek a)
def sm {α:Type} (l:List α):Bool:=Nat.ble (l.length+1) most
def smC (l:List (Int×Int)):Bool:=sm l
def smB (l:List Int):Bool:=sm l
def smG (l:List Z4):Bool:=sm l
variable {α:Type}
theorem ZqO {l:List α}:sm l=true↔l.length+1<=most:=by simp[sm]
theorem ZzK {l:List α} (h:sm l=true):l.length<=most:=by have:=ZqO.1 h;omega
theorem ZIx (l:List Z4) (t:Int): -1<=ZbA l t/\(ZbA l t<0\/∃i:Nat,i<l.length/\ZbA l t=i):=by
 unfold ZbA;split
 ·rename_i h;exact⟨by omega,.inr ⟨_,h,rfl⟩⟩
 ·exact⟨by omega,.inl (by omega)⟩
theorem Ztg (l:List Z4) (t:Int) (h:0<=ZbA l t):Ze (ZbA l t) l.length=true:=by
 rcases (ZIx l t).2 with h1|⟨i,hi,e⟩
 ·omega
 ·rw[e];exact ZdI l i hi
def ZdH (l:List Z4) (m:List Cell) (t v:Int):List Cell:=bif decide (ZbA l t>=0)&&(R.get GR l (ZbA l t)).2.2.1 then putX (normX m) (t,v) else normX m
def limX (n:Int):Int:=if (if 100<n then 100 else n)>0 then if 100<n then 100 else n else 0
def Zqk (l:List Z4) (t:Int):Int:=bif decide (ZbA l t>=0) then limX (R.get GR l (ZbA l t)).2.2.2 else 0
theorem ZzN (l:List Z4) (m:List Cell) (t v:Int) (hl:l.length<=most) (hm:m.length+1<=most):Zn0 l m t v=true/\Zug l m t v=ZdH l m t v:=by
 have h1:=ZjF l t hl;have h2:=ZHl m t v hm;have h3:=ZjE m hm;have hv:(ZgD l m t v).val=some (ZdH l m t v):=by
  have hr:(!decide (ZbA l t>=0)||Ze (ZbA l t) l.length)=true:=by
   by_cases h:0<=ZbA l t
   ·rw[Ztg l t h];simp
   ·have:decide (ZbA l t>=0)=false:=by simp;omega
    rw[this];rfl
  simp only[ZgD,RT.val,h1.1,h1.2,h2.1,h2.2,h3.1,h3.2,hr,Ye,Ya,ZdH];cases decide (ZbA l t>=0)&&(R.get GR l (ZbA l t)).2.2.1<;>rfl
 exact⟨by simp only[Zn0,hv];rfl,by simp only[Zug,hv,getO]⟩
theorem ZzO (l:List Z4) (t:Int) (hl:l.length<=most):Zuh l t=true/\ZDo l t=Zqk l t:=by
 have h1:=ZjF l t hl;have hv:(ZjK l t).val=some (Zqk l t):=by
  have hr:(!decide (ZbA l t>=0)||Ze (ZbA l t) l.length)=true:=by
   by_cases h:0<=ZbA l t
   ·rw[Ztg l t h];simp
   ·have:decide (ZbA l t>=0)=false:=by simp;omega
    rw[this];rfl
  simp only[ZjK,RT.val,h1.1,h1.2,hr,Ya,Zqk];cases decide (ZbA l t>=0)<;>rfl
 exact⟨by simp only[Zuh,hv];rfl,by simp only[ZDo,hv,getO]⟩
def badR (r:Z4):Bool:=decide (r.2.1<r.1)||(decide (r.2.2.2<0)||decide (r.2.2.2>100))
def Zef (l:List Z4):Int:=bif decide (iN l.length>16) then 3 else bif l.any badR then 1 else 0
theorem Zt7 (l:List Z4) (hl:l.length<=most):Zn3 l=true/\Zuj l=Zef l:=by
 have hms:=mst;obtain⟨r,hr,hR⟩:=Zaj (fl:=true) (t:=Zc1) (fuel:=λ_=>1000000000000)
  (λx=>∃i:Nat,i<=l.length/\(∀k,k<i->badR (rg l k)=false)/\x=(0,l,(l.length:Int),(i:Int),()))
  (λx=>Int.toNat (x.2.2.1-x.2.2.2.1)) (λr=>(r.1=false/\l.any badR=false)\/(r.1=true/\l.any badR=true/\r.2.1=1))
  (by
   rintro x ⟨i,hi,hk,rfl⟩;by_cases hlt:i<l.length
   ·have d:decide ((i:Int)<(l.length:Int))=true:=by simpa using hlt
    have r1:=ZdI l i hlt;have g1:=ZJ3 l i;cases hh:badR (rg l i) with
    |false=>
     left;refine⟨(0,l,(l.length:Int),((i+1:Nat):Int),()),?_,⟨i+1,hlt,λk hk'=> ?_,rfl⟩,by simp only;omega⟩
     ·simp only[badR] at hh;simp only[Zc1,RT.val,d,r1,g1,hh,Ya,Yb,ZtD i (by omega)]
     ·by_cases e:k=i
      ·subst e;exact hh
      ·exact hk k (by omega)
    |true=>
     right;right;refine⟨(1,l,(l.length:Int),(i:Int),()),rfl,?_,.inr ⟨rfl,List.any_eq_true.2 ⟨rg l i,?_,hh⟩,rfl⟩⟩
     ·simp only[badR] at hh;simp only[Zc1,RT.val,d,r1,g1,hh,Ya]
     ·rw[<-ZqU l i hlt];exact List.getElem_mem hlt
   ·right;left;have d:decide ((i:Int)<(l.length:Int))=false:=by simpa using hlt
    refine⟨_,by simp only[Zc1,RT.val,d,Yb];rfl,.inl ⟨rfl,?_⟩⟩;rw[List.any_eq_false];intro q hq;obtain⟨k,hk',rfl⟩:=List.mem_iff_getElem.1 hq
    rw[ZqU l k hk',hk k (by omega)];simp)
  (0,l,iN l.length,0,()) ⟨0,Yo _,λk h=>by omega,rfl⟩ (by simp only[iN];omega)
 have hv:(Zek l).val=some (Zef l):=by
  cases hd:decide (iN l.length>16) with
  |true=>simp only[Zek,RT.val,hd,Ya,Zef]
  |false=>
   rcases hR with ⟨h1,h2⟩|⟨h1,h2,h3⟩
   ·simp only[Zek,RT.val,hd,hr,okB,getO,Ya,Yb,h1,h2,Zef]
   ·simp only[Zek,RT.val,hd,hr,okB,getO,Ya,Yb,h1,h2,h3,Zef]
 exact⟨by simp only[Zn3,hv];rfl,by simp only[Zuj,hv,getO]⟩
theorem ZzI {P:Program} {f:FuncId} {ts:List Sh} {rs:Rs} {C:HL ts->Bool} {F G:HL ts->rs.den} (h:Zd P f (Zi ts rs (λa=>some (C a)) F)) {pre:HL ts->Bool} (hp:∀a,pre a=true->C a=true/\F a=G a):
  Zd P f (Zi ts rs (λa=>some (pre a)) G):=by
 have key:∀a,some (pre a)≠some false->pre a=true:=λa h=>by cases hq:pre a with
  |true=>rfl
  |false=>rw[hq] at h;exact absurd rfl h
 exact h.pure_congr (λa _ hq=>by rw[(hp a (key a hq)).1];simp) (λa _ hq=>(hp a (key a hq)).2)
def ZiS:En:=Zi Zn2 ZiR (λa=>some (smC a)) (λa=>vldB a)
theorem ZhE:Zd prog 44 ZiS:=ZzI ZjL λa h=>ZDa a (ZzK h)
def Zom:En:=Zi ZuF Zok (λa=>some (smC a)) (λa=>normX a)
theorem ZjX:Zd prog 92 Zom:=ZzI Zoj λa h=>ZjE a (ZqO.1 h)
def ZxL:En:=Zi Zob ZiT (λa=>some (smG a.1&&smC a.2.1)) (λa=>Zmw a.1 a.2.1 a.2.2)
theorem Zz3:Zd prog 102 ZxL:=ZzI ZDx λa h=>by rw[Yc] at h;exact ZDe a.1 a.2.1 a.2.2 (ZzK h.1) (ZzK h.2)
def ZjJ:En:=Zi ZjH ZgE (λa=>some (smG a.1&&smC a.2.1)) (λa=>ZdH a.1 a.2.1 a.2.2.1 a.2.2.2)
theorem ZjI:Zd prog 101 ZjJ:=ZzI ZzU λa h=>by rw[Yc] at h;exact ZzN a.1 a.2.1 a.2.2.1 a.2.2.2 (ZzK h.1) (ZqO.1 h.2)
def Zxs:En:=Zi Zn1 ZiQ (λa=>some (smG a.1)) (λa=>Zqk a.1 a.2)
theorem ZzV:Zd prog 300 Zxs:=ZzI ZDn λa h=>ZzO a.1 a.2 (ZzK h)
def Zq8:En:=Zi ZjM ZgF (λa=>some (smG a)) (λa=>Zef a)
theorem Zui:Zd prog 247 Zq8:=ZzI ZzX λa h=>Zt7 a (ZzK h)
abbrev ZwP:List Sh:=[Sh.one (R.int u8),Sh.one (R.int u8),Sh.one (R.int u8)]
abbrev ZwQ:Rs:=Rs.one (Sh.one (R.int u8))
def ZCf (a:Int) (b:Int) (c:Int):RT (Int):=
 .Lf (xorI u8 (xorI u8 (xorI u8 a b) c) 165)
def Zqx (a:Int) (b:Int) (c:Int):Int:=(ZCf a b c).val
def Zjm:En:=Zi ZwP ZwQ (λ_=>none) (λa=>Zqx a.1 a.2.1 a.2.2)
theorem Zgt:Zd prog 134 Zjm:=
 pureQ 127 [] [] ZwP ZwQ trivial Tryz.func134 Tryz.call134 trivial (t:=λa=>ZCf a.1 a.2.1 a.2.2)
abbrev ZIT:List Sh:=[Sh.one R.bool,Sh.one (R.int i64)]
abbrev ZCl:Rs:=Rs.one (Sh.one (R.int u8))
def ZGW (o:Bool) (n:Int):RT (Option (Int)):=
 .br (!o||decide (0<=n)) (.br (o) (.Lf (some (shlI u8 1 n))) (.Lf (some (0)))) (.Lf none)
def wBit (o:Bool) (n:Int):Int:=getO ZCl.Df (ZGW o n).val
def Zee (o:Bool) (n:Int):Bool:=okB (ZGW o n).val
def ZKl:En:=Zi ZIT ZCl (λa=>some (Zee a.1 a.2)) (λa=>wBit a.1 a.2)
theorem ZCk:Zd prog 133 ZKl:=
 pureP 31 [] [] ZIT ZCl trivial Tryz.func133 Tryz.call133 trivial (t:=λa=>ZGW a.1 a.2)
abbrev ZCb:List Sh:=[]
abbrev ZCc:Rs:=Rs.one (Sh.agg ZcE)
def ZIR:RT INPT:=
 .Lf ((true,false,false,false,false,false,false,false,0,0))
def ZH:INPT:=(ZIR).val
def ZwL:En:=Zi ZCb ZCc (λ_=>none) (λa=>ZH)
theorem Znu:Zd prog 190 ZwL:=
 pureQ 1 [] [] ZCb ZCc trivial Tryz.func190 Tryz.call190 trivial (t:=λa=>ZIR)
abbrev Zqu:List Sh:=[Sh.one (R.sl (R.int u8))]
abbrev Zjk:Rs:=Rs.one (Sh.one (R.sl ZcE))
def ZzB:LS:={n:=83,Sl:=[(0,.code (Sh.one (R.sl (R.int u8)))),(3,.tip 0),(4,.code (Sh.one (R.int i64)))],Bx:=[],Sg:=[⟨ZcE,195,true⟩]}
def Zca (a:List Int×Int×List INPT×PUnit):RT (Option (Go1 (List Int×Int×List INPT×PUnit))):=
 let x1:= !Ze (i64.wrap (a.2.1+1)) (List.length a.1)||Ze (i64.wrap (a.2.1+2)) (List.length a.1)
 let x2:= !Ze (i64.wrap (a.2.1+3)) (List.length a.1)||x1
 let x3:= !x2
 let x4:= !Ze (i64.wrap (a.2.1+3)) (List.length a.1)||Ze (i64.wrap (a.2.1+1)) (List.length a.1)
 let x5:= !x4
 let p1:=(!Ze (i64.wrap (a.2.1+3)) (List.length a.1))::x5::x3::(!Ze a.2.1 (List.length a.1))::[]
 let x6:=R.get (R.int u8) a.1 (i64.wrap (a.2.1+3)) !=Zqx (R.get (R.int u8) a.1 a.2.1) (R.get (R.int u8) a.1 (i64.wrap (a.2.1+1))) (R.get (R.int u8) a.1 (i64.wrap (a.2.1+2)))
 let x7:= !x6||Nat.ble (List.length (a.2.2.1++[ZH])) most
 let x8:= !x7
 let p2:=x6::x8::p1
 let x9:List INPT:=a.2.2.1++[(andI u8 (R.get (R.int u8) a.1 a.2.1) 1==0,andI u8 (R.get (R.int u8) a.1 a.2.1) 2 !=0,andI u8 (R.get (R.int u8) a.1 a.2.1) 4 !=0,andI u8 (R.get (R.int u8) a.1 a.2.1) 8 !=0,andI u8 (R.get (R.int u8) a.1 a.2.1) 16 !=0,andI u8 (R.get (R.int u8) a.1 a.2.1) 32 !=0,andI u8 (R.get (R.int u8) a.1 a.2.1) 64 !=0,andI u8 (R.get (R.int u8) a.1 a.2.1) 128 !=0,R.get (R.int u8) a.1 (i64.wrap (a.2.1+1)),R.get (R.int u8) a.1 (i64.wrap (a.2.1+2)))]
 let x10:= !Ze (i64.wrap (a.2.1+1)) (List.length a.1)||(!Ze (i64.wrap (a.2.1+2)) (List.length a.1)||Nat.ble (List.length x9) most)
 let x11:= !x10
 let p3:=x11::p2
 let p4:=(!x1)::p3
 .br (decide (i64.wrap (a.2.1+4)<=iN (List.length a.1))&&decide (iN (List.length a.2.2.1)<65536)) (.br (orR p4 (Ze (i64.wrap (a.2.1+1)) (List.length a.1))) (.br (orR p3 x1) (.br (orR p2 x10) (.br (orR p1 x7) (.br (!Ze a.2.1 (List.length a.1)||(x3||(x5||Ze (i64.wrap (a.2.1+3)) (List.length a.1)))) (.br (!Ze a.2.1 (List.length a.1)||(x3||x4)) (.br (!Ze a.2.1 (List.length a.1)||x2) (.br (Ze a.2.1 (List.length a.1)) (.Lf (some (Go1.cont (a.1,i64.wrap (a.2.1+4),bif x6 then a.2.2.1++[ZH] else x9,PUnit.unit)))) (.Lf none)) (.Lf none)) (.Lf none)) (.Lf none)) (.Lf none)) (.Lf none)) (.Lf none)) (.Lf none)) (.Lf (some (Go1.brk (a.1,a.2.1,a.2.2.1,PUnit.unit))))
def Zmc:Ora:=Zdo false ZzB Zca (λa=>1000000000000)
theorem Zqv:Zb9 (envX prog [(134,Zjm),(190,ZwL)] [] 63 8) (.block 0 (.loop (ZaV Tryz.f120.body 0))) Zmc:=
 loopP ⟨Zgt,Znu,Tv⟩
def Zgq (l:List Int):RT (Option (List INPT)):=
 .br (okB (runF false Zca (λa=>1000000000000) (l,0,[],()))) (.Lf (some (getO (false,l,0,[],()) (runF false Zca (λa=>1000000000000) (l,0,[],()))).2.2.2.1)) (.Lf none)
def ZaC (l:List Int):List INPT:=getO Zjk.Df (Zgq l).val
def ZiN (l:List Int):Bool:=okB (Zgq l).val
def Znw:En:=Zi Zqu Zjk (λa=>some (ZiN a)) (λa=>ZaC a)
theorem Zmb:Zd prog 120 Znw:=
 pureP 63 [(134,Zjm),(190,ZwL)] [(0,Zmc)] Zqu Zjk ⟨Zgt,Znu,Tv⟩ Tryz.func120 Tryz.call120 ⟨Zqv,Tv⟩ (t:=λa=>Zgq a)
abbrev ZCd:Rs:=Rs.one (Sh.one (R.sl (R.int u8)))
def Zc0 (a:List INPT×Int×Int×List Int×PUnit):RT (Option (Go1 (List INPT×Int×Int×List Int×PUnit))):=
 let x1:INPT:=R.get ZcE a.1 a.2.2.1
 let x2:= !x1.1
 let x3:=Zee x2 0
 let x4:= !x3
 let x5:=x1.2
 let x6:=x5.1
 let x7:=Zee x6 1
 let x8:= !x7
 let x9:=x5.2
 let x10:=x9.1
 let x11:=Zee x10 2
 let x12:= !x11
 let x13:=x9.2
 let x14:=x13.1
 let x15:=Zee x14 3
 let x16:= !x15
 let p2:=x16::x12::x8::x4::[]
 let x17:=x13.2
 let x18:=x17.1
 let x19:=Zee x18 4
 let x20:= !x19
 let p3:=x20::p2
 let x21:=x17.2
 let x22:=x21.1
 let x23:=Zee x22 5
 let x24:= !x23
 let p5:=x24::p3
 let x25:=x21.2
 let x26:=x25.1
 let x27:=Zee x26 6
 let p8:=(!x27)::p5
 let x28:=x25.2
 let x29:=x28.1
 let x30:=orR p8 (Zee x29 7)
 let x31:= !x30
 let x32:=orR p5 x27
 let x33:= !x32
 let p1:=x33::x31::(decide (a.2.2.1>=65536))::(!Ze a.2.2.1 (List.length a.1))::[]
 let x34:=orR p3 x23
 let x35:= !x34
 let p4:=x35::p1
 let x36:=orR p2 x19
 let x37:= !x36
 let p6:=x37::p4
 let x38:=x4||(x8||(x12||x15))
 let x39:= !x38
 let p7:=x39::p6
 let x40:=x4||(x8||x11)
 let x41:= !x40
 let p9:=x41::p7
 let x42:=x4||x7
 let x43:= !x42
 let p10:=x43::p9
 let p11:=x4::p10
 let x44:=orI u8 (orI u8 (orI u8 (orI u8 (orI u8 (orI u8 (orI u8 (wBit x2 0) (wBit x6 1)) (wBit x10 2)) (wBit x14 3)) (wBit x18 4)) (wBit x22 5)) (wBit x26 6)) (wBit x29 7)
 let x45:=x28.2
 let x46:=x45.1
 let x47:=x45.2
 let x48:List Int:=a.2.2.2.1++[x44,x46,x47,Zqx x44 x46 x47]
 .br (decide (a.2.2.1<a.2.1)) (.br (orR p11 (Nat.ble (List.length x48) most)) (.br (orR p10 x3) (.br (orR p9 x42) (.br (orR p7 x40) (.br (orR p6 x38) (.br (orR p4 x36) (.br (orR p1 x34) (.br (!Ze a.2.2.1 (List.length a.1)||(decide (a.2.2.1>=65536)||(x31||x32))) (.br (!Ze a.2.2.1 (List.length a.1)||(decide (a.2.2.1>=65536)||x30)) (.br (Ze a.2.2.1 (List.length a.1)) (.br (decide (a.2.2.1>=65536)) (.Lf (some (Go1.brk (a.1,a.2.1,a.2.2.1,a.2.2.2.1,PUnit.unit)))) (.Lf (some (Go1.cont (a.1,a.2.1,i64.wrap (a.2.2.1+1),x48,PUnit.unit))))) (.Lf none)) (.Lf none)) (.Lf none)) (.Lf none)) (.Lf none)) (.Lf none)) (.Lf none)) (.Lf none)) (.Lf none)) (.Lf none)) (.Lf (some (Go1.brk (a.1,a.2.1,a.2.2.1,a.2.2.2.1,PUnit.unit))))
def Zfg (l:List INPT):RT (Option (List Int)):=
 let x1:=runF false Zc0 (λa=>1000000000000) (l,iN (List.length l),0,[],())
 .br (okB x1) (.Lf (some (getO (false,l,iN (List.length l),0,[],()) x1).2.2.2.2.1)) (.Lf none)
def Zjj (l:List INPT):List Int:=getO ZCd.Df (Zfg l).val
def ZwM (l:List INPT):Bool:=okB (Zfg l).val
abbrev ZwB:List Sh:=[Sh.agg (R.Pq (R.int i64) (R.Pq rcRG (R.Pq (R.int i64) (R.Pq (R.int u8) (R.Pq (R.int u8) (R.Pq R.bool rcCE))))))]
abbrev Znp:Rs:=Rs.one (Sh.one (R.int i64))
def Zno (l:BRDT):RT (Option (Int)):=
 .br (l.1 !=1&&l.1 !=2) (.Lf (some (1))) (.br (smG l.2.1) (.br (Zef l.2.1 !=0) (.Lf (some (Zef l.2.1))) (.br (decide (l.2.2.1<0)||(decide (l.2.2.1>100)||smC l.2.2.2.2.2.2)) (.br (decide (l.2.2.1<0)||(decide (l.2.2.1>100)|| !vldB l.2.2.2.2.2.2)) (.Lf (some (1))) (.Lf (some (0)))) (.Lf none))) (.Lf none))
def Zc8 (l:BRDT):Int:=getO Znp.Df (Zno l).val
def Znq (l:BRDT):Bool:=okB (Zno l).val
def ZBS:En:=Zi ZwB Znp (λa=>some (Znq a)) (λa=>Zc8 a)
theorem ZBR:Zd prog 188 ZBS:=
 pureP 15 [(44,ZiS),(247,Zq8)] [] ZwB Znp ⟨ZhE,Zui,Tv⟩ Tryz.func188 Tryz.call188 trivial (t:=λa=>Zno a)
abbrev ZIP:List Sh:=[Sh.agg (R.Pq (R.int i64) (R.Pq rcRG (R.Pq (R.int i64) (R.Pq (R.int u8) (R.Pq (R.int u8) (R.Pq R.bool rcCE))))))]
abbrev ZB3:Rs:=Rs.tup [Sh.agg (R.Pq (R.Pq ZW (R.Pq (R.int i64) (R.Pq (R.sl (R.int u8)) (R.Pq (RY) (R.Pq (R.int i64) R.bool))))) (R.Pq rcCE (R.Pq ZaH (R.Pq (R.Pq (R.int u16) (R.Pq (R.int u8) (R.int i64))) (R.Pq (R.int i64) (R.sl (R.Pq (R.int u8) (R.int u8)))))))),Sh.one (R.int i64)]
def ZtE (l:BRDT):RT (Option (SYST×Int)):=
 let x1:TR:=(0,0,0,0,0,0,0,(false,false,false,false,false,false,false),0,0)
 .br (Znq l) (.br (Zc8 l !=0) (.Lf (some (((((0,x1,false,false,false,0,false,false,false,false,false,false,false),0,[],(0,0,0,0),0,false),[],(0,false,false,false,false,0,0,false,false,false,false,false,0,0,0,0,0,0,0,false),(0,0,0),0,[]),Zc8 l)))) (.br (smC l.2.2.2.2.2.2) (.Lf (some ((((((newX l.1).1.1,x1,false,false,false,(newX l.1).1.2.2.2.2.2.1,false,false,false,false,false,false,false),0,[],(1,0,0,4),1,false),Cells.normX l.2.2.2.2.2.2,(0,false,false,false,false,0,0,false,false,false,false,false,0,0,0,0,7,0,0,false),(0,0,0),0,[]),0)))) (.Lf none))) (.Lf none)
def wNew (l:BRDT):SYST×Int:=getO ZB3.Df (ZtE l).val
def ZGP (l:BRDT):Bool:=okB (ZtE l).val
def ZKh:En:=Zi ZIP ZB3 (λa=>some (ZGP a)) (λa=>wNew a)
theorem ZB2:Zd prog 119 ZKh:=
 pureP 31 [(80,ZJr),(92,Zom),(188,ZBS),(189,ZKs)] [] ZIP ZB3 ⟨ZHN,ZjX,ZBR,ZCI,Tv⟩ Tryz.func119 Tryz.call119 trivial (t:=λa=>ZtE a)
def ZaD:En:=.tree (ZaB (envX prog [] [] 7 8) Tryz.f99)
theorem Za9:Zd prog 99 ZaD:=Zb1 (P:=prog) (n:=7) (k:=8) (l:=[]) (ol:=[]) trivial Tryz.func99 rfl (by kernel_rfl) Tryz.call99 trivial
abbrev ZB4:List Sh:=[Sh.agg (R.Pq (R.int i64) (R.Pq rcRG (R.Pq (R.int i64) (R.Pq (R.int u8) (R.Pq (R.int u8) (R.Pq R.bool rcCE)))))),Sh.agg (RY)]
abbrev ZtF:Rs:=Rs.one (Sh.one (R.int i64))
def ZwE (l:BRDT) (x:QT10):RT (Option (Int)):=
 .br (!(decide (x.1>=1)&&decide (x.1<=5))||smG l.2.1) (.br (decide (x.1>=1)&&decide (x.1<=5)) (.Lf (some (Zqk l.2.1 x.2.1))) (.br (x.1==6||x.1==7) (.Lf (some (ZD7 l.2.2.1))) (.Lf (some (0))))) (.Lf none)
def ZGS (l:BRDT) (x:QT10):Int:=getO ZtF.Df (ZwE l x).val
def ZwF (l:BRDT) (x:QT10):Bool:=okB (ZwE l x).val
def ZIQ:En:=Zi ZB4 ZtF (λa=>some (ZwF a.1 a.2)) (λa=>ZGS a.1 a.2)
theorem ZGQ:Zd prog 249 ZIQ:=
 pureP 16447 [(99,ZaD),(300,Zxs),(301,Zvn)] [] ZB4 ZtF ⟨Za9,ZzV,Zry,Tv⟩ Tryz.func249 Tryz.call249 trivial (t:=λa=>ZwE a.1 a.2)
abbrev Zql:List Sh:=[Sh.agg (R.Pq (R.Pq ZW (R.Pq (R.int i64) (R.Pq (R.sl (R.int u8)) (R.Pq (RY) (R.Pq (R.int i64) R.bool))))) (R.Pq rcCE (R.Pq ZaH (R.Pq (R.Pq (R.int u16) (R.Pq (R.int u8) (R.int i64))) (R.Pq (R.int i64) (R.sl (R.Pq (R.int u8) (R.int u8))))))))]
abbrev Zqm:Rs:=Rs.one (Sh.one (R.int i64))
def ZwA (s:SYST):RT (Int):=
 .br (ZU s.1 !=7) (.Lf (0)) (.Lf (i64.wrap (s.2.2.2.2.1+1)))
def ZfZ (s:SYST):Int:=(ZwA s).val
def Znn:En:=Zi Zql Zqm (λ_=>none) (λa=>ZfZ a)
theorem Zma:Zd prog 193 Znn:=
 pureQ 7 [(79,Zel)] [] Zql Zqm ⟨Zdd,Tv⟩ Tryz.func193 Tryz.call193 trivial (t:=λa=>ZwA a)
abbrev Zqo:List Sh:=[Sh.agg (R.Pq (R.int i64) (R.Pq rcRG (R.Pq (R.int i64) (R.Pq (R.int u8) (R.Pq (R.int u8) (R.Pq R.bool rcCE)))))),Sh.agg (R.Pq (R.Pq ZW (R.Pq (R.int i64) (R.Pq (R.sl (R.int u8)) (R.Pq (RY) (R.Pq (R.int i64) R.bool))))) (R.Pq rcCE (R.Pq ZaH (R.Pq (R.Pq (R.int u16) (R.Pq (R.int u8) (R.int i64))) (R.Pq (R.int i64) (R.sl (R.Pq (R.int u8) (R.int u8)))))))),Sh.agg ZcE]
abbrev Zjf:Rs:=Rs.one (Sh.agg Zuf)
def Zgo (l:BRDT) (s:SYST) (i:INPT):RT (Option LINT):=
 let x1:=bif i.2.1 then i.2.2.2.1 else i.2.2.2.1
 let x2:=bif i.2.1 then i.2.2.2.2.1 else i.2.2.2.2.1
 let x3:=bif i.2.1 then i.2.2.2.2.2.1 else i.2.2.2.2.2.1
 let x4:=bif i.2.1 then i.2.2.2.2.2.2.1 else i.2.2.2.2.2.2.1
 let x5:=bif i.2.1 then i.2.2.2.2.2.2.2.1 else i.2.2.2.2.2.2.2.1
 let x6:=bif l.2.2.2.2.2.1 then andI u8 i.2.2.2.2.2.2.2.2.1 1==1 else vInt s.2.2.1
 let x7:=bif i.2.1 then x6 else x6
 .br (ZG6 s.2.2.1) (.br (!i.1||ZwF l s.1.2.2.2.1) (.Lf (some ((i.1&&bif i.2.1 then decide (ZfZ s>=ZGS l s.1.2.2.2.1) else decide (ZfZ s>=ZGS l s.1.2.2.2.1),bif i.1 then i.2.1||ZbH s.2.2.2.1 else i.2.1||ZbH s.2.2.2.1,bif i.1 then bif i.2.1 then i.2.2.1 else i.2.2.1 else bif i.2.1 then i.2.2.1 else i.2.2.1,bif i.1 then x1 else x1,bif i.1 then x2 else x2,bif i.1 then x3 else x3,bif i.1 then x4 else x4,bif i.1 then x5 else x5,bif i.1 then x7 else x7)))) (.Lf none)) (.Lf none)
def Znt (l:BRDT) (s:SYST) (i:INPT):LINT:=getO Zjf.Df (Zgo l s i).val
def ZiM (l:BRDT) (s:SYST) (i:INPT):Bool:=okB (Zgo l s i).val
def ZwG:En:=Zi Zqo Zjf (λa=>some (ZiM a.1 a.2.1 a.2.2)) (λa=>Znt a.1 a.2.1 a.2.2)
theorem Zzy:Zd prog 192 ZwG:=
 pureP 255 [(193,Znn),(248,ZMc),(249,ZIQ),(250,Zjs)] [] Zqo Zjf ⟨Zma,ZKt,ZGQ,Zjr,Tv⟩ Tryz.func192 Tryz.call192 trivial (t:=λa=>Zgo a.1 a.2.1 a.2.2)
abbrev ZwH:List Sh:=[Sh.agg (R.Pq (R.int i64) (R.Pq rcRG (R.Pq (R.int i64) (R.Pq (R.int u8) (R.Pq (R.int u8) (R.Pq R.bool rcCE)))))),Sh.one (R.int u8)]
abbrev ZwI:Rs:=Rs.tup [Sh.one R.bool,Sh.one R.bool]
def ZB9 (l:BRDT) (p:Int):RT (Bool×Bool):=
 .Lf ((bif !l.2.2.2.2.2.1 then bif p==l.2.2.2.1 then p==u8.wrap (l.2.2.2.1+1) else p==u8.wrap (l.2.2.2.1+1) else p==u8.wrap (l.2.2.2.1+1),!l.2.2.2.2.2.1&&(p==l.2.2.2.1||p==u8.wrap (l.2.2.2.1+1))))
def ZcI (l:BRDT) (p:Int):Bool×Bool:=(ZB9 l p).val
def ZtG:En:=Zi ZwH ZwI (λ_=>none) (λa=>ZcI a.1 a.2)
theorem Zqp:Zd prog 251 ZtG:=
 pureQ 63 [] [] ZwH ZwI trivial Tryz.func251 Tryz.call251 trivial (t:=λa=>ZB9 a.1 a.2)
abbrev ZwJ:List Sh:=[Sh.agg (R.Pq (R.int i64) (R.Pq rcRG (R.Pq (R.int i64) (R.Pq (R.int u8) (R.Pq (R.int u8) (R.Pq R.bool rcCE)))))),Sh.one (R.int u8)]
abbrev ZwK:Rs:=Rs.tup [Sh.one (R.int i64),Sh.one R.bool]
def ZCa (l:BRDT) (p:Int):RT (Int×Bool):=
 .Lf ((i64.wrap (u8.wrap (p-l.2.2.2.2.1)),decide (u8.wrap (p-l.2.2.2.2.1)<4)))
def ZeF (l:BRDT) (p:Int):Int×Bool:=(ZCa l p).val
def ZtH:En:=Zi ZwJ ZwK (λ_=>none) (λa=>ZeF a.1 a.2)
theorem Zqq:Zd prog 252 ZtH:=
 pureQ 127 [] [] ZwJ ZwK trivial Tryz.func252 Tryz.call252 trivial (t:=λa=>ZCa a.1 a.2)
abbrev ZIS:List Sh:=[Sh.agg (R.Pq (R.int i64) (R.Pq rcRG (R.Pq (R.int i64) (R.Pq (R.int u8) (R.Pq (R.int u8) (R.Pq R.bool rcCE)))))),Sh.agg (R.Pq (R.Pq ZW (R.Pq (R.int i64) (R.Pq (R.sl (R.int u8)) (R.Pq (RY) (R.Pq (R.int i64) R.bool))))) (R.Pq rcCE (R.Pq ZaH (R.Pq (R.Pq (R.int u16) (R.Pq (R.int u8) (R.int i64))) (R.Pq (R.int i64) (R.sl (R.Pq (R.int u8) (R.int u8)))))))),Sh.agg ZcE]
abbrev ZCj:Rs:=Rs.tup [Sh.agg (R.Pq (R.Pq ZW (R.Pq (R.int i64) (R.Pq (R.sl (R.int u8)) (R.Pq (RY) (R.Pq (R.int i64) R.bool))))) (R.Pq rcCE (R.Pq ZaH (R.Pq (R.Pq (R.int u16) (R.Pq (R.int u8) (R.int i64))) (R.Pq (R.int i64) (R.sl (R.Pq (R.int u8) (R.int u8)))))))),Sh.one (R.int u8)]
def ZCi (l:BRDT) (s:SYST) (i:INPT):RT (Option (SYST×Int)):=
 let x1:=decide (s.1.2.2.2.1.1>=1)&&decide (s.1.2.2.2.1.1<=5)
 let x2:= !x1||smG l.2.1&&smC s.2.1
 let x3:= !x2
 let x4:=s.1.2.2.2.1.1 !=6&&l.2.2.2.2.2.1
 let p1:=(!(ZcI l (u8.wrap s.1.2.2.2.1.2.1)).2)::(s.1.2.2.2.1.1 !=6)::x4::x1::[]
 let x5:=x1||(x4||(!s.1.2.2.2.1.1 !=6||ZG9 s.2.2.1))
 let x6:= !x5
 let x7:=orR p1 (Zw2 s.2.2.1 (ZcI l (u8.wrap s.1.2.2.2.1.2.1)).1)
 let p2:=(!(ZeF l (u8.wrap s.1.2.2.2.1.2.1)).2)::((ZcI l (u8.wrap s.1.2.2.2.1.2.1)).2)::(s.1.2.2.2.1.1 !=6)::x4::x1::(!x7)::x6::x3::[]
 let x8:=ZG0 s.2.2.1 (ZcI l (u8.wrap s.1.2.2.2.1.2.1)).1
 let x9:=x8.1
 .br (i.2.2.1||(ZU s.1 !=3|| !Za2 s.1.2.2.2.1.1)) (.Lf (some ((s,0)))) (.br (orR p2 (ZnH s.2.2.2.1 (ZeF l (u8.wrap s.1.2.2.2.1.2.1)).1)) (.br (x3||(x6||x7)) (.br (x3||x5) (.br (x2) (.Lf (some (((s.1,s.2.1,(R.sel ZaH x1 s.2.2.1 (R.sel ZaH x4 s.2.2.1 (R.sel ZaH (s.1.2.2.2.1.1 !=6) (vAck s.2.2.1).1 (R.sel ZaH ((ZcI l (u8.wrap s.1.2.2.2.1.2.1)).2) x9 s.2.2.1)))),s.2.2.2),bif x1 then Zmw l.2.1 s.2.1 s.1.2.2.2.1.2.1 else bif x4 then i.2.2.2.2.2.2.2.2.2 else bif s.1.2.2.2.1.1 !=6 then (vAck s.2.2.1).2 else bif (ZcI l (u8.wrap s.1.2.2.2.1.2.1)).2 then x8.2 else bif (ZeF l (u8.wrap s.1.2.2.2.1.2.1)).2 then ZCx s.2.2.2.1 (ZeF l (u8.wrap s.1.2.2.2.1.2.1)).1 else i.2.2.2.2.2.2.2.2.2)))) (.Lf none)) (.Lf none)) (.Lf none)) (.Lf none))
def wBus (l:BRDT) (s:SYST) (i:INPT):SYST×Int:=getO ZCj.Df (ZCi l s i).val
def ZGV (l:BRDT) (s:SYST) (i:INPT):Bool:=okB (ZCi l s i).val
def ZL7:En:=Zi ZIS ZCj (λa=>some (ZGV a.1 a.2.1 a.2.2)) (λa=>wBus a.1 a.2.1 a.2.2)
theorem ZKj:Zd prog 194 ZL7:=
 pureP 4956598223910189960238497791 [(79,Zel),(99,ZaD),(102,ZxL),(103,ZjU),(251,ZtG),(252,ZtH),(253,ZMd),(254,ZIW),(255,ZCw)] [] ZIS ZCj ⟨Zdd,Za9,Zz3,ZgK,Zqp,Zqq,ZKw,ZGY,ZCu,Tv⟩ Tryz.func194 Tryz.call194 trivial (t:=λa=>ZCi a.1 a.2.1 a.2.2)
abbrev ZwC:List Sh:=[Sh.agg (R.Pq (R.int i64) (R.Pq rcRG (R.Pq (R.int i64) (R.Pq (R.int u8) (R.Pq (R.int u8) (R.Pq R.bool rcCE)))))),Sh.agg (R.Pq (R.Pq ZW (R.Pq (R.int i64) (R.Pq (R.sl (R.int u8)) (R.Pq (RY) (R.Pq (R.int i64) R.bool))))) (R.Pq rcCE (R.Pq ZaH (R.Pq (R.Pq (R.int u16) (R.Pq (R.int u8) (R.int i64))) (R.Pq (R.int i64) (R.sl (R.Pq (R.int u8) (R.int u8)))))))),Sh.agg (RY)]
abbrev Znr:Rs:=Rs.one (Sh.agg (R.Pq (R.Pq ZW (R.Pq (R.int i64) (R.Pq (R.sl (R.int u8)) (R.Pq (RY) (R.Pq (R.int i64) R.bool))))) (R.Pq rcCE (R.Pq ZaH (R.Pq (R.Pq (R.int u16) (R.Pq (R.int u8) (R.int i64))) (R.Pq (R.int i64) (R.sl (R.Pq (R.int u8) (R.int u8)))))))))
def Zje (l:BRDT) (s:SYST) (x:QT10):RT (Option SYST):=
 let x1:List (Int×Int):=[]++s.2.2.2.2.2++[(u8.wrap x.2.1,x.2.2.1)]
 let x2:=ZCp s.2.2.1 (ZcI l (u8.wrap x.2.1)).1 x.2.2.1
 let x30:=ZtM s.2.2.2.1 (ZeF l (u8.wrap x.2.1)).1 x.2.2.1
 .br (!x.1 !=7||smG l.2.1&&smC s.2.1) (.br (x.1 !=7) (.Lf (some ((s.1,ZdH l.2.1 s.2.1 x.2.1 x.2.2.1,s.2.2)))) (.br (!Nat.ble (List.length ([]++s.2.2.2.2.2)) most||Nat.ble (List.length x1) most) (.br (Nat.ble (List.length ([]++s.2.2.2.2.2)) most) (.br (!(ZcI l (u8.wrap x.2.1)).2||ZnE s.2.2.1 (ZcI l (u8.wrap x.2.1)).1 x.2.2.1) (.Lf (some ((s.1,s.2.1,(R.sel ZaH ((ZcI l (u8.wrap x.2.1)).2) x2 s.2.2.1),(R.sel ZMn ((ZcI l (u8.wrap x.2.1)).2) s.2.2.2.1 (R.sel ZMn ((ZeF l (u8.wrap x.2.1)).2) x30 s.2.2.2.1)),s.2.2.2.2.1,x1)))) (.Lf none)) (.Lf none)) (.Lf none))) (.Lf none)
def ZwD (l:BRDT) (s:SYST) (x:QT10):SYST:=getO Znr.Df (Zje l s x).val
def Zns (l:BRDT) (s:SYST) (x:QT10):Bool:=okB (Zje l s x).val
def ZBV:En:=Zi ZwC Znr (λa=>some (Zns a.1 a.2.1 a.2.2)) (λa=>ZwD a.1 a.2.1 a.2.2)
theorem ZBT:Zd prog 195 ZBV:=
 pureP 4095 [(101,ZjJ),(251,ZtG),(252,ZtH),(256,ZCo),(257,ZwW)] [] ZwC Znr ⟨ZjI,Zqp,Zqq,ZCm,ZzE,Tv⟩ Tryz.func195 Tryz.call195 trivial (t:=λa=>Zje a.1 a.2.1 a.2.2)
abbrev ZwN:List Sh:=[Sh.agg (R.Pq (R.int i64) (R.Pq rcRG (R.Pq (R.int i64) (R.Pq (R.int u8) (R.Pq (R.int u8) (R.Pq R.bool rcCE)))))),Sh.agg (R.Pq (R.Pq ZW (R.Pq (R.int i64) (R.Pq (R.sl (R.int u8)) (R.Pq (RY) (R.Pq (R.int i64) R.bool))))) (R.Pq rcCE (R.Pq ZaH (R.Pq (R.Pq (R.int u16) (R.Pq (R.int u8) (R.int i64))) (R.Pq (R.int i64) (R.sl (R.Pq (R.int u8) (R.int u8)))))))),Sh.agg ZcE]
abbrev Znx:Rs:=Rs.tup [Sh.agg (R.Pq (R.Pq ZW (R.Pq (R.int i64) (R.Pq (R.sl (R.int u8)) (R.Pq (RY) (R.Pq (R.int i64) R.bool))))) (R.Pq rcCE (R.Pq ZaH (R.Pq (R.Pq (R.int u16) (R.Pq (R.int u8) (R.int i64))) (R.Pq (R.int i64) (R.sl (R.Pq (R.int u8) (R.int u8)))))))),Sh.agg ZcS,Sh.agg (R.Pq Zuf (R.Pq (R.int u8) (R.Pq (R.Pq (R.int u16) (R.int u8)) R.bool)))]
def Zjl (l:BRDT) (s:SYST) (i:INPT):RT (Option (QT24)):=
 let x1:=Zw6 s.2.2.1 i.2.2.2.2.2.2.2.2.1
 let x29:SYST:=(s.1,s.2.1,(R.sel ZaH (!l.2.2.2.2.2.1) x1 s.2.2.1),s.2.2.2)
 let x30:=wBus l x29 i
 let x31:=x30.1
 let x32:=x31.1
 let x33:= !i.2.2.1&&(ZU s.1==3&&Zbx s.1.2.2.2.1.1)
 let x34:=Znt l x29 i
 let x35:=x30.2
 let x36:=clkX x32 x34 x35
 let x37:=x36.1
 let x38:=x31.2
 let x39:=x38.1
 let x40:=x38.2
 let x41:=x40.1
 let x42:=x40.2
 let x43:=x42.1
 let x44:=ZfZ x29
 let x45:=x42.2.2
 let x46:SYST:=(x37,x39,x41,x43,x44,x45)
 let x47:=x36.2
 let x48:=x47.2.2.2.2.2.2.2.2.2.2.2.2.2.2.2.1
 let x49:=ZwD l x46 s.1.2.2.2.1
 let x50:=x49.2
 let x51:=x50.2
 let x52:=x51.2
 let x53:=x52.1
 let x54:Int:=bif x33 then x53.1 else x43.1
 let x55:=x53.2
 let x56:=x43.2
 let x57:Int:=bif x33 then x55.1 else x56.1
 let x58:Int:=bif x33 then x55.2 else x56.2
 let x59:=Zgu (x54,x57,x58)
 let x60:=x59.2
 let x61:=x60.2
 let x62:List (Int×Int):=bif x33 then x50.1 else x39
 let x63:=x49.1
 let x64:=x63.1
 let x65:=x37.1
 let x118:=x63.2
 let x119:=x37.2
 let x120:=x118.2
 let x121:=x119.2
 let x122:=x120.2
 let x123:=x122.1
 let x124:=x121.2
 let x125:=x124.1
 let x130:=x122.2
 let x131:=x124.2
 let x132:=x60.1
 let x133:=x132.1
 let x134:=x132.2
 let x135:=x51.1
 let x136:=x135.2
 let x137:=x41.2
 let x138:=x136.2
 let x139:=x137.2
 let x140:=x138.2
 let x141:=x139.2
 let x142:=x140.2
 let x143:=x141.2
 let x144:=x142.2
 let x145:=x143.2
 let x146:=x144.2
 let x147:=x145.2
 let x148:=x146.2
 let x149:=x147.2
 let x150:=x148.2
 let x151:=x149.2
 let x152:=x150.2
 let x153:=x151.2
 let x154:=x152.2
 let x155:=x153.2
 let x156:=x154.2
 let x157:=x155.2
 let x158:=x156.2
 let x159:=x157.2
 let x160:=x158.2
 let x161:=x159.2
 let x162:=x160.2
 let x163:=x161.2
 let x164:=x162.2
 let x165:=x163.2
 let x166:=x164.2
 let x167:=x165.2
 let x168:=x166.2
 let x169:=x167.2
 let x170:=x168.2
 let x171:=x169.2
 let x172:=x59.1
 let x173:=x172.2
 let x174:=x52.2
 .br (ZiM l x29 i) (.br (ZGV l x29 i) (.br (ZDi x32) (.br (!x33||Zns l x46 s.1.2.2.2.1) (.br (!x48||(!x61||smG l.2.1&&smC x62)) (.Lf (some (((((R.sel ZW x33 x64 x65),bif x33 then x118.1 else x119.1,bif x33 then x120.1 else x121.1,(R.sel RY x33 x123 x125),bif x33 then x130.1 else x131.1,bif x33 then x130.2 else x131.2),bif x48 then bif x61 then ZdH l.2.1 x62 x133 x134 else x62 else x62,(bif x33 then x135.1 else x41.1,bif x33 then x136.1 else x137.1,bif x33 then x138.1 else x139.1,bif x33 then x140.1 else x141.1,bif x33 then x142.1 else x143.1,bif x33 then x144.1 else x145.1,bif x33 then x146.1 else x147.1,bif x33 then x148.1 else x149.1,bif x33 then x150.1 else x151.1,bif x33 then x152.1 else x153.1,bif x33 then x154.1 else x155.1,bif x33 then x156.1 else x157.1,bif x33 then x158.1 else x159.1,bif x33 then x160.1 else x161.1,bif x33 then x162.1 else x163.1,bif x33 then x164.1 else x165.1,bif x33 then x166.1 else x167.1,bif i.2.2.1 then 0 else bif x33 then x168.1 else x169.1,bif x33 then x170.1 else x171.1,bif x33 then x170.2 else x171.2),(bif x48 then bif x61 then x172.1 else x54 else x54,bif x48 then bif x61 then x173.1 else x57 else x57,bif i.2.2.1 then 0 else bif x48 then bif x61 then x173.2 else x58 else x58),bif x33 then x174.1 else x44,bif x33 then x174.2 else x45),x47,x34,x35,(bif x48 then bif x61 then x133 else 0 else 0,bif x48 then bif x61 then x134 else 0 else 0),x48&&x61)))) (.Lf none)) (.Lf none)) (.Lf none)) (.Lf none)) (.Lf none)
def ZwO (l:BRDT) (s:SYST) (i:INPT):QT24:=getO Znx.Df (Zjl l s i).val
def Zny (l:BRDT) (s:SYST) (i:INPT):Bool:=okB (Zjl l s i).val
def ZtK:En:=Zi ZwN Znx (λa=>some (Zny a.1 a.2.1 a.2.2)) (λa=>ZwO a.1 a.2.1 a.2.2)
theorem Zqw:Zd prog 121 ZtK:=
 pureP 131071 [(27,Zyl),(79,Zel),(100,ZnZ),(101,ZjJ),(191,ZCC),(192,ZwG),(193,Znn),(194,ZL7),(195,ZBV),(196,Zmf)] [] ZwN Znx ⟨ZA2,Zdd,Zmx,ZjI,ZCA,Zzy,Zma,ZKj,ZBT,ZqD,Tv⟩ Tryz.func121 Tryz.call121 trivial (t:=λa=>Zjl a.1 a.2.1 a.2.2)
abbrev Zmd:List Sh:=[Sh.agg (R.Pq ZW (R.Pq (R.int i64) (R.Pq (R.sl (R.int u8)) (R.Pq (RY) (R.Pq (R.int i64) R.bool))))),Sh.one (R.int i64),Sh.one (R.int u8)]
abbrev Zme:Rs:=Rs.one (Sh.agg (RY))
def Zgr (c:CORT) (s:Int) (d:Int):RT TY:=
 let x1:Int:=bif Za2 c.2.2.2.1.1 then d else c.2.2.2.1.2.2.1
 .Lf ((c.2.2.2.1.1,c.2.2.2.1.2.1,bif s==3 then x1 else c.2.2.2.1.2.2.1,bif s==3 then bif c.2.2.2.1.1==1||c.2.2.2.1.1==8 then ZgR c.1.1 x1 else c.2.2.2.1.2.2.2 else c.2.2.2.1.2.2.2))
def ZP (c:CORT) (s:Int) (d:Int):QT10:=(Zgr c s d).val
def Zgs:En:=Zi Zmd Zme (λ_=>none) (λa=>ZP a.1 a.2.1 a.2.2)
theorem Zf2:Zd prog 123 Zgs:=
 pureQ 255 [(103,ZjU),(116,Zvs)] [] Zmd Zme ⟨ZgK,ZrB,Tv⟩ Tryz.func123 Tryz.call123 trivial (t:=λa=>Zgr a.1 a.2.1 a.2.2)
abbrev ZB5:List Sh:=[Sh.one (R.int i64)]
abbrev ZB7:Rs:=Rs.one (Sh.one (R.int i64))
def ZB6 (s:Int):RT (Int):=
 .br (Za s) (.Lf (3)) (.br (s==5) (.Lf (2)) (.Lf (1)))
def Zjg (s:Int):Int:=(ZB6 s).val
def ZB8:En:=Zi ZB5 ZB7 (λ_=>none) (λa=>Zjg a)
theorem ZGT:Zd prog 200 ZB8:=
 pureQ 79 [(104,Zfr)] [] ZB5 ZB7 ⟨ZeT,Tv⟩ Tryz.func200 Tryz.call200 trivial (t:=λa=>ZB6 a)
abbrev ZBO:List Sh:=[Sh.agg ZzT,Sh.agg ZW,Sh.agg Zuf]
abbrev ZBP:Rs:=Rs.one (Sh.agg ZzT)
def ZIN (e:EVTT) (c:TC) (l:LINT):RT EVTT:=
 .Lf ((e.1,e.2.1,e.2.2.1,l,c.2.2.2.2.2.2.2.1,c.2.2.2.2.2.2.1,c.2.2.2.2.2.2.2.2.2.1,c.2.2.2.2.2.2.2.2.1,e.2.2.2.2.2.2.2.2))
def ZeE (e:EVTT) (c:TC) (l:LINT):EVTT:=(ZIN e c l).val
def ZBQ:En:=Zi ZBO ZBP (λ_=>none) (λa=>ZeE a.1 a.2.1 a.2.2)
theorem ZGO:Zd prog 198 ZBQ:=
 pureQ 127 [] [] ZBO ZBP trivial Tryz.func198 Tryz.call198 trivial (t:=λa=>ZIN a.1 a.2.1 a.2.2)
abbrev ZwR:List Sh:=[Sh.agg (R.Pq ZW (R.Pq (R.int i64) (R.Pq (R.sl (R.int u8)) (R.Pq (RY) (R.Pq (R.int i64) R.bool))))),Sh.one (R.int i64),Sh.one (R.int u8)]
abbrev Znz:Rs:=Rs.one (Sh.one (R.sl (R.int u8)))
def Zjn (c:CORT) (s:Int) (d:Int):RT (Option (List Int)):=
 let x1:List Int:=[]++c.2.2.1++[(ZP c s d).2.2.1]
 .br (Nat.ble (List.length ([]++c.2.2.1)) most) (.br (!s==3||Nat.ble (List.length x1) most) (.Lf (some (bif s==3 then x1 else []++c.2.2.1))) (.Lf none)) (.Lf none)
def ZwS (c:CORT) (s:Int) (d:Int):List Int:=getO Znz.Df (Zjn c s d).val
def ZnA (c:CORT) (s:Int) (d:Int):Bool:=okB (Zjn c s d).val
def ZtL:En:=Zi ZwR Znz (λa=>some (ZnA a.1 a.2.1 a.2.2)) (λa=>ZwS a.1 a.2.1 a.2.2)
theorem ZCg:Zd prog 201 ZtL:=
 pureP 255 [(123,Zgs)] [] ZwR Znz ⟨Zf2,Tv⟩ Tryz.func201 Tryz.call201 trivial (t:=λa=>Zjn a.1 a.2.1 a.2.2)
abbrev Zjh:List Sh:=[Sh.agg (R.Pq ZW (R.Pq (R.int i64) (R.Pq (R.sl (R.int u8)) (R.Pq (RY) (R.Pq (R.int i64) R.bool))))),Sh.agg Zuf,Sh.one (R.int u8)]
abbrev Zf0:Rs:=Rs.tup [Sh.agg ZW,Sh.one R.bool]
def ZdN (c:CORT) (l:LINT) (d:Int):RT (Option (TC×Bool)):=
 let x1:TC×Bool:=((0,(0,0,0,0,0,0,0,(false,false,false,false,false,false,false),0,0),false,false,false,0,false,false,false,false,false,false,false),false)
 .br l.2.2.1 (.Lf (some (x1))) (.br (ZdX c c.2.2.2.2.1 d) (.br (!ZhI c.2.2.2.2.1 (Zgb c c.2.2.2.2.1 d).1) (.Lf (some (x1))) (.br (Zg (Zf c.1 l) c.2.1 (Zgb c c.2.2.2.2.1 d).2).2 (.Lf (some (x1))) (.Lf (some ((finX (Zf c.1 l) c.2.1 (Zgb c c.2.2.2.2.1 d).2 l,true)))))) (.Lf none))
def Zgp (c:CORT) (l:LINT) (d:Int):TC×Bool:=getO Zf0.Df (ZdN c l d).val
def Zff (c:CORT) (l:LINT) (d:Int):Bool:=okB (ZdN c l d).val
def Zht:En:=Zi Zjh Zf0 (λa=>some (Zff a.1 a.2.1 a.2.2)) (λa=>Zgp a.1 a.2.1 a.2.2)
theorem Zqr:Zd prog 199 Zht:=
 pureP 16383 [(42,Zx3),(84,ZkD),(89,ZDz),(90,ZEu),(98,ZK3)] [] Zjh Zf0 ⟨Zon,ZkC,ZxK,Zyi,ZEh,Tv⟩ Tryz.func199 Tryz.call199 trivial (t:=λa=>ZdN a.1 a.2.1 a.2.2)
def ZbK:En:=.tree (ZaB (envX prog [] [] 541622271 8) Tryz.f122)
theorem Zcu:Zd prog 122 ZbK:=Zb1 (P:=prog) (n:=541622271) (k:=8) (l:=[]) (ol:=[]) trivial Tryz.func122 rfl (by kernel_rfl) Tryz.call122 trivial
def ZbV:En:=.tree (ZaB (envX prog [] [] 63 8) Tryz.f197)
theorem ZfI:Zd prog 197 ZbV:=Zb1 (P:=prog) (n:=63) (k:=8) (l:=[]) (ol:=[]) trivial Tryz.func197 rfl (by kernel_rfl) Tryz.call197 trivial
def Zbe:En:=.tree (ZaB (envX prog [(30,ZrD),(79,Zel),(84,ZkD),(197,ZbV),(198,ZBQ),(199,Zht),(200,ZB8),(201,ZtL)] [] 32767 8) Tryz.f124)
theorem ZbU:Zd prog 124 Zbe:=Zb1 (P:=prog) (n:=32767) (k:=8) (l:=[(30,ZrD),(79,Zel),(84,ZkD),(197,ZbV),(198,ZBQ),(199,Zht),(200,ZB8),(201,ZtL)]) (ol:=[]) ⟨Zpg,Zdd,ZkC,ZfI,ZGO,Zqr,ZGT,ZCg,Tv⟩ Tryz.func124 rfl (by kernel_rfl) Tryz.call124 trivial
abbrev ZIO:List Sh:=[Sh.agg (R.Pq (R.int i64) (R.Pq rcRG (R.Pq (R.int i64) (R.Pq (R.int u8) (R.Pq (R.int u8) (R.Pq R.bool rcCE)))))),Sh.one (R.sl (R.int u8))]
abbrev ZBY:Rs:=Rs.tup [Sh.agg (R.Pq (R.sl ZcS) (R.Pq (R.sl Zav) (R.Pq (R.sl ZzT) (R.Pq (R.sl ZW) (R.Pq (R.Pq ZW (R.Pq (R.int i64) (R.Pq (R.sl (R.int u8)) (R.Pq (RY) (R.Pq (R.int i64) R.bool))))) (R.Pq rcCE (R.Pq ZaH (R.Pq (R.Pq (R.int u16) (R.Pq (R.int u8) (R.int i64))) (R.Pq (R.int i64) (R.sl (R.Pq (R.int u8) (R.int u8)))))))))))),Sh.one (R.int i64)]
def ZKf:LS:={n:=119,Sl:=[(2,.fix (A.loc 0 0)),(4,.fix (A.loc 1 0)),(6,.fix (A.loc 2 0)),(8,.fix (A.loc 3 0)),(9,.fix (A.loc 4 0)),(32,.code (Sh.one (R.sl ZcE))),(33,.code (Sh.one (R.int i64))),(34,.code (Sh.one (R.int i64)))],Bx:=[[.many (R.Pq (R.int i64) (R.Pq rcRG (R.Pq (R.int i64) (R.Pq (R.int u8) (R.Pq (R.int u8) (R.Pq R.bool rcCE))))))],[.many (R.Pq (R.sl ZcS) (R.Pq (R.sl Zav) (R.Pq (R.sl ZzT) (R.Pq (R.sl ZW) (R.Pq (R.Pq ZW (R.Pq (R.int i64) (R.Pq (R.sl (R.int u8)) (R.Pq (RY) (R.Pq (R.int i64) R.bool))))) (R.Pq rcCE (R.Pq ZaH (R.Pq (R.Pq (R.int u16) (R.Pq (R.int u8) (R.int i64))) (R.Pq (R.int i64) (R.sl (R.Pq (R.int u8) (R.int u8))))))))))))],[.many (R.Pq (R.Pq ZW (R.Pq (R.int i64) (R.Pq (R.sl (R.int u8)) (R.Pq (RY) (R.Pq (R.int i64) R.bool))))) (R.Pq rcCE (R.Pq ZaH (R.Pq (R.Pq (R.int u16) (R.Pq (R.int u8) (R.int i64))) (R.Pq (R.int i64) (R.sl (R.Pq (R.int u8) (R.int u8))))))))],[.tip 0,.tip 1,.tip 2,.tip 3,.many (R.Pq (R.Pq ZW (R.Pq (R.int i64) (R.Pq (R.sl (R.int u8)) (R.Pq (RY) (R.Pq (R.int i64) R.bool))))) (R.Pq rcCE (R.Pq ZaH (R.Pq (R.Pq (R.int u16) (R.Pq (R.int u8) (R.int i64))) (R.Pq (R.int i64) (R.sl (R.Pq (R.int u8) (R.int u8))))))))],[.many ZW]],Sg:=[⟨R.Pq (R.int i64) (R.Pq (R.int u16) (R.Pq (R.int u8) (R.Pq R.bool (R.Pq R.bool (R.Pq R.bool (R.Pq R.bool (R.Pq R.bool Zuf))))))),72,false⟩,⟨R.Pq (R.int i64) (R.Pq (RY) (R.Pq (R.int i64) (R.Pq (R.int i64) (R.Pq R.bool R.bool)))),125,false⟩,⟨R.Pq (R.int i64) (R.Pq (R.int i64) (R.Pq (R.sl (R.int u8)) (R.Pq Zuf (R.Pq R.bool (R.Pq R.bool (R.Pq R.bool (R.Pq R.bool (R.Pq (R.int u16) (R.int u8))))))))),108,false⟩,⟨R.Pq (R.int i64) (R.Pq ZjG (R.Pq R.bool (R.Pq R.bool (R.Pq R.bool (R.Pq (R.int u8) rcF7))))),38,false⟩]}
def Zed (a:List INPT×Int×Int×BRDT×RUNT×SYST×SYST×TC×List PINT×List ITMT×List EVTT×List TC×PUnit):RT (Option (Go1 (List INPT×Int×Int×BRDT×RUNT×SYST×SYST×TC×List PINT×List ITMT×List EVTT×List TC×PUnit))):=
 let x1:INPT:=R.get ZcE a.1 a.2.2.1
 let x2:=Zny a.2.2.2.1 a.2.2.2.2.2.1 x1
 let x3:= !x2
 let x4:=ZwO a.2.2.2.1 a.2.2.2.2.2.1 x1
 let x5:=x4.2
 let x6:List PINT:=a.2.2.2.2.2.2.2.2.1++[x5.1]
 let x7:=Nat.ble (List.length x6) most
 let x8:= !x7
 let x9:Int:=bif x1.2.2.1 then 10 else ZU a.2.2.2.2.2.1.1
 let x10:=x9==8
 let x11:=x9==9
 let x12:=x9==10
 let x13:Int:=bif x10 then 2 else bif x11 then 3 else bif x12 then 4 else 1
 let x14:=x13 !=1
 let x15:= !x14
 let x16:=i64.wrap (iN (List.length a.2.2.2.2.2.2.2.2.2.1)-1)
 let x17:=decide (x16>=0)
 let x18:= !x17
 let x19:=Ze x16 (List.length a.2.2.2.2.2.2.2.2.2.1)
 let x20:=x18||x19
 let x21:= !x20
 let x22:ITMT:=R.get Zav a.2.2.2.2.2.2.2.2.2.1 x16
 let x23:=x22.1
 let x24:=x23==x13
 let x25:= !x24
 let x26:=x18||(x25||x19)
 let x27:=x22.2
 let x28:=x27.2
 let x29:=x28.2
 let x30:=x29.2
 let x31:=x30.1==a.2.2.2.2.2.1.1.1.2.2.1
 let p9:=(!x31)::x25::x18::(!x26)::x21::x15::[]
 let x32:=orR p9 x19
 let x33:= !x32
 let x34:=x15||(x21||x26)
 let x35:= !x34
 let x36:=x15||x20
 let x37:= !x36
 let x38:=a.2.2.2.2.2.1.1.1.2.2.2.2.2.2.2.2.2.2.2.2
 let x39:=x17&&(x24&&(x31&&x30.2==x38))
 let x40:= !x39
 let x41:= !x19
 let x42:=x15||(x40||(x41||x19))
 let x43:= !x42
 let p2:=x43::x37::x35::x33::[]
 let x44:=x15||(x40||x19)
 let x45:= !x44
 let p8:=x14::x45::p2
 let p10:=x39::x15::x45::p2
 let x46:=x5.2
 let x47:=x46.2
 let x48:=x47.1
 let x49:=ZP a.2.2.2.2.2.1.1 x9 x48
 let x50:=x49.2
 let x51:=x50.2
 let x52:QT10:=(bif x10 then 0 else bif x11 then 0 else bif x12 then 0 else x49.1,bif x10 then 0 else bif x11 then a.2.2.2.2.2.1.1.1.2.1.2.2.2.2.2.2.2.2.2 else bif x12 then 0 else x50.1,bif x10 then 0 else bif x11 then 0 else bif x12 then 0 else x51.1,bif x10 then 0 else bif x11 then 0 else bif x12 then 0 else x51.2)
 let x53:List ITMT:=a.2.2.2.2.2.2.2.2.2.1++[(x13,x52,0,1,a.2.2.2.2.2.1.1.1.2.2.1,x38)]
 let x54:=Nat.ble (List.length x53) most
 let x55:=orR p10 x54
 let x56:= !x55
 let p3:=x56::x8::x3::(!Ze a.2.2.1 (List.length a.1))::[]
 let x57:=x9==1
 let x58:= !x57||x54
 let x59:= !x58
 let p14:=x57::x59::p8
 let p18:=x41::p14
 let x60:=x9==7
 let x61:= !x60
 let x62:=setI a.2.2.2.2.2.2.2.2.2.1 x16 (x23,x52,x28)
 let x63:=Ze x16 (List.length x62)
 let x64:= !x63||x63
 let x65:=x61||x64
 let x66:= !x65
 let p21:=x66::p18
 let x67:=x61||x63
 let x68:= !x67
 let p23:=x68::p21
 let x69:=x60||x64
 let p26:=x60::(!x69)::p23
 let x70:=orR p26 x63
 let x71:= !x70
 let p6:=x71::p3
 let x72:=orR p23 x69
 let x73:= !x72
 let p7:=x73::p6
 let x74:=orR p21 x67
 let x75:= !x74
 let p12:=x75::p7
 let x76:=orR p18 x65
 let x77:= !x76
 let p13:=x77::p12
 let x78:=orR p14 x19
 let x79:= !x78
 let p17:=x79::p13
 let x80:=orR p8 x58
 let x81:= !x80
 let p19:=x81::p17
 let x82:=orR p2 x44
 let x83:= !x82
 let p22:=x83::p19
 let x84:=x33||(x35||(x37||x42))
 let x85:= !x84
 let p25:=x85::p22
 let x86:=x33||(x35||x36)
 let x87:= !x86
 let p27:=x87::p25
 let x88:=x33||x34
 let x89:= !x88
 let p29:=x89::p27
 let p30:=x33::p29
 let x90:Nat:=List.length a.2.2.2.2.2.2.2.2.2.2.2.1
 let x91:=iN x90
 let x92:=decide (x91>0)
 let x93:=i64.wrap (x91-1)
 let x94:= !x92||Ze x93 x90
 let x95:= !x94
 let x96:=x46.1
 let x97:=x96.2.2.1
 let x98:= !x97
 let x99:=Nat.ble (List.length ([]++a.2.2.2.2.2.1.1.2.2.1)) most
 let x100:= !x99
 let x101:LINT:=(false,false,false,false,false,false,false,false,false)
 let x102:LINT×Bool×Bool×Bool×Bool×Int×Int:=(x101,false,false,false,false,0,0)
 let x103:List EVTT:=a.2.2.2.2.2.2.2.2.2.2.1++[ZeE (6,a.2.2.2.2.2.1.1.2.1,[]++a.2.2.2.2.2.1.1.2.2.1,x102) a.2.2.2.2.2.1.1.1 x96]
 let x104:=Nat.ble (List.length x103) most
 let x105:TC:=R.get ZW a.2.2.2.2.2.2.2.2.2.2.2.1 x93
 let x151:List TC:=[(R.sel ZW x92 x105 a.2.2.2.2.2.2.2.1)]
 let x152:List TC:=a.2.2.2.2.2.2.2.2.2.2.2.1++x151
 let x153:= !x104||Nat.ble (List.length x152) most
 let p1:=(!x153)::x100::(!Zdu a.2.2.2.2.2.1.1)::x98::[]
 let x154:=orR p1 x104
 let x155:= !x154
 let x156:=x98||(!Zdu a.2.2.2.2.2.1.1||(x100||x153))
 let x157:= !x156
 let x158:=x98||(!Zdu a.2.2.2.2.2.1.1||x99)
 let x159:= !x158
 let p4:=x159::x157::x155::x95::[]
 let x160:List EVTT:=(bif Zdu a.2.2.2.2.2.1.1 then x103 else a.2.2.2.2.2.2.2.2.2.2.1)++[ZeE (4,0,[],x102) a.2.2.2.2.2.1.1.1 x96]
 let x161:=Nat.ble (List.length x160) most
 let x162:=x4.1
 let x163:List TC:=(bif Zdu a.2.2.2.2.2.1.1 then x152 else a.2.2.2.2.2.2.2.2.2.2.2.1)++[x162.1.1]
 let x164:= !x161||Nat.ble (List.length x163) most
 let x165:=x98||(!x164||x161)
 let x166:= !x165
 let p5:=x166::p4
 let x167:=x98||x164
 let x168:= !x167
 let p11:=x97::x168::p5
 let x169:=Zff a.2.2.2.2.2.1.1 x96 x48
 let x170:= !x169
 let p15:=x170::p11
 let x171:=Zgp a.2.2.2.2.2.1.1 x96 x48
 let x172:=x171.2
 let x173:= !x172
 let x174:=ZnA a.2.2.2.2.2.1.1 (ZU a.2.2.2.2.2.1.1) x48
 let x175:= !x174
 let x176:List EVTT:=a.2.2.2.2.2.2.2.2.2.2.1++[ZeE (Zjg a.2.2.2.2.2.1.1.2.1,a.2.2.2.2.2.1.1.2.1,ZwS a.2.2.2.2.2.1.1 (ZU a.2.2.2.2.2.1.1) x48,x102) (Zf a.2.2.2.2.2.1.1.1 x96) x96]
 let x177:=Nat.ble (List.length x176) most
 let x178:List TC:=a.2.2.2.2.2.2.2.2.2.2.2.1++[x171.1]
 let x179:= !x177||Nat.ble (List.length x178) most
 let x180:=x173||(x175||(!x179||x177))
 let x181:= !x180
 let p16:=x181::p15
 let x182:=x173||(x175||x179)
 let x183:= !x182
 let p20:=x183::p16
 let x184:=x173||x174
 let x185:= !x184
 let p24:=x185::p20
 let x186:=x47.2
 let x187:=x186.2
 let x188:= !x187
 let x189:List EVTT:=bif x172 then x176 else a.2.2.2.2.2.2.2.2.2.2.1
 let x190:List EVTT:=x189++[(5,0,[],x101,false,false,false,false,x186.1)]
 let x191:=Nat.ble (List.length x190) most
 let x192:List TC:=bif x172 then x178 else a.2.2.2.2.2.2.2.2.2.2.2.1
 let x193:List TC:=x192++x151
 let x194:= !x191||Nat.ble (List.length x193) most
 let x195:=x188||(!x194||x191)
 let p28:=x188::(!x195)::p24
 let x196:=orR p28 x194
 let x197:= !x196
 let p31:=x197::p30
 let x198:=orR p24 x195
 let x199:= !x198
 let p32:=x199::p31
 let x200:=orR p20 x184
 let x201:= !x200
 let p33:=x201::p32
 let x202:=orR p16 x182
 let x203:= !x202
 let p34:=x203::p33
 let x204:=orR p15 x180
 let x205:= !x204
 let p35:=x205::p34
 let x206:=orR p11 x169
 let x207:= !x206
 let p36:=x207::p35
 let x208:=orR p5 x167
 let x209:= !x208
 let p37:=x209::p36
 let x210:=orR p4 x165
 let x211:= !x210
 let p38:=x211::p37
 let x212:=x95||(x155||(x157||x158))
 let x213:= !x212
 let p39:=x213::p38
 let x214:=x95||(x155||x156)
 let x215:= !x214
 let p40:=x215::p39
 let x216:=x95||x154
 let p41:=(!x216)::p40
 let x217:ITMT:=R.get Zav x62 x16
 let x218:=x217.1
 let x219:=x217.2
 let x220:=x219.1
 let x221:=x219.2
 let x222:=x221.1
 let x223:=x221.2
 .br (decide (a.2.2.1<a.2.1)) (.br (orR p41 x94) (.br (orR p40 x216) (.br (orR p39 x214) (.br (orR p38 x212) (.br (orR p37 x210) (.br (orR p36 x208) (.br (orR p35 x206) (.br (orR p34 x204) (.br (orR p33 x202) (.br (orR p32 x200) (.br (orR p31 x198) (.br (orR p30 x196) (.br (orR p29 x32) (.br (orR p27 x88) (.br (orR p25 x86) (.br (orR p22 x84) (.br (orR p19 x82) (.br (orR p17 x80) (.br (orR p13 x78) (.br (orR p12 x76) (.br (orR p7 x74) (.br (orR p6 x72) (.br (orR p3 x70) (.br (!Ze a.2.2.1 (List.length a.1)||(x3||(x8||x55))) (.br (!Ze a.2.2.1 (List.length a.1)||(x3||x7)) (.br (!Ze a.2.2.1 (List.length a.1)||x2) (.br (Ze a.2.2.1 (List.length a.1)) (.Lf (some (Go1.cont (a.1,a.2.1,i64.wrap (a.2.2.1+1),a.2.2.2.1,a.2.2.2.2.1,x162,a.2.2.2.2.2.2.1,a.2.2.2.2.2.2.2.1,x6,bif x14 then bif x39 then setI a.2.2.2.2.2.2.2.2.2.1 x16 (x23,x27.1,x28.1,i64.wrap (x29.1+1),x30) else x53 else bif x57 then x53 else bif x60 then setI x62 x16 (x218,x220,i64.wrap (x222+1),x223) else setI x62 x16 (x218,x220,x222,i64.wrap (x223.1+1),x223.2),bif x97 then x160 else bif x187 then x190 else x189,bif x97 then x163 else bif x187 then x193 else x192,PUnit.unit)))) (.Lf none)) (.Lf none)) (.Lf none)) (.Lf none)) (.Lf none)) (.Lf none)) (.Lf none)) (.Lf none)) (.Lf none)) (.Lf none)) (.Lf none)) (.Lf none)) (.Lf none)) (.Lf none)) (.Lf none)) (.Lf none)) (.Lf none)) (.Lf none)) (.Lf none)) (.Lf none)) (.Lf none)) (.Lf none)) (.Lf none)) (.Lf none)) (.Lf none)) (.Lf none)) (.Lf none)) (.Lf (some (Go1.brk (a.1,a.2.1,a.2.2.1,a.2.2.2.1,a.2.2.2.2.1,a.2.2.2.2.2.1,a.2.2.2.2.2.2.1,a.2.2.2.2.2.2.2.1,a.2.2.2.2.2.2.2.2.1,a.2.2.2.2.2.2.2.2.2.1,a.2.2.2.2.2.2.2.2.2.2.1,a.2.2.2.2.2.2.2.2.2.2.2.1,PUnit.unit))))
def ZB0:Ora:=Zdo false ZKf Zed (λa=>1000000000000)
theorem ZBZ:Zb9 (envX prog [(30,ZrD),(79,Zel),(119,ZKh),(120,Znw),(121,ZtK),(122,ZbK),(123,Zgs),(124,Zbe)] [] 524287 8) (.block 0 (.loop (ZaV Tryz.f63.body 0))) ZB0:=
 loopP ⟨Zpg,Zdd,ZB2,Zmb,Zqw,Zcu,Zf2,ZbU,Tv⟩
def ZBX (b:BRDT) (l:List Int):RT (Option (RUNT×Int)):=
 let x1:SYST:=(((0,(0,0,0,0,0,0,0,(false,false,false,false,false,false,false),0,0),false,false,false,0,false,false,false,false,false,false,false),0,[],(0,0,0,0),0,false),[],(0,false,false,false,false,0,0,false,false,false,false,false,0,0,0,0,0,0,0,false),(0,0,0),0,[])
 let x2:RUNT:=([],[],[],[],x1)
 let x3:List INPT×Int×Int×BRDT×RUNT×SYST×SYST×TC×List PINT×List ITMT×List EVTT×List TC×PUnit:=(ZaC l,iN (List.length (ZaC l)),0,b,x2,(wNew b).1,x1,(wNew b).1.1.1,[],[],[],[],())
 let x4:=runF false Zed (λa=>1000000000000) x3
 let x5:SYST×SYST×TC×List PINT×List ITMT×List EVTT×List TC×PUnit:=(getO (false,x3) x4).2.2.2.2.2.2
 let x6:=x5.1
 let x7:=x6.1
 let x8:=Zdu x7
 let x9:= !x8
 let x10:=x5.2.2
 let x11:=x10.2
 let x12:=x11.2
 let x13:=x12.2
 let x14:=x13.2.1
 let x15:Nat:=List.length x14
 let x16:=iN x15
 let x17:=decide (x16>0)
 let x18:=i64.wrap (x16-1)
 let x19:=x7.2
 let x20:List Int:=[]++x19.2.1
 let x21:=Nat.ble (List.length x20) most
 let x22:=x13.1
 let x23:List EVTT:=x22++[(7,x19.1,x20,(false,false,false,false,false,false,false,false,false),false,false,false,false,0,0)]
 let x24:TC:=R.get ZW x14 x18
 let x78:List TC:=x14++[(R.sel ZW x17 x24 (getO (false,x3) x4).2.2.2.2.2.2.2.2.1)]
 let x79:=x11.1
 let x80:=x12.1
 .br (ZGP b) (.br ((wNew b).2 !=0) (.Lf (some ((x2,(wNew b).2)))) (.br (ZiN l) (.br (okB x4) (.br (x9||(!x17||Ze x18 x15)) (.br (x9||(!x21||Nat.ble (List.length x23) most)) (.br (x9||x21) (.br (x9||Nat.ble (List.length x78) most) (.br (x8) (.Lf (some (((x79,x80,x23,x78,x6),0)))) (.Lf (some (((x79,x80,x22,x14,x6),0))))) (.Lf none)) (.Lf none)) (.Lf none)) (.Lf none)) (.Lf none)) (.Lf none))) (.Lf none)
def wRun (b:BRDT) (l:List Int):RUNT×Int:=getO ZBY.Df (ZBX b l).val
def ZB1 (b:BRDT) (l:List Int):Bool:=okB (ZBX b l).val
def ZL6:En:=Zi ZIO ZBY (λa=>some (ZB1 a.1 a.2)) (λa=>wRun a.1 a.2)
theorem ZKe:Zd prog 63 ZL6:=
 pureP 524287 [(30,ZrD),(79,Zel),(119,ZKh),(120,Znw),(121,ZtK),(122,ZbK),(123,Zgs),(124,Zbe)] [(0,ZB0)] ZIO ZBY ⟨Zpg,Zdd,ZB2,Zmb,Zqw,Zcu,Zf2,ZbU,Tv⟩ Tryz.func63 Tryz.call63 ⟨ZBZ,Tv⟩ (t:=λa=>ZBX a.1 a.2)
end
end Go.Proofs.YtghoimllhpjkjaaGreat
