import Derived.Test.YtlgmapcjapofoaaS3D
import Derived.Test.YtlgmapcjapofoaaProg
import Derived.Test.YtlgmapcjapofoaaS3Box1
import Derived.RangeFuncNested
import Derived.RangeFuncLeaves
import Derived.Shelf.Abstract
import Derived.WalkKit
import Derived.OwnWalkIn
import Derived.TacticsInMore
import Derived.LoopNIn
import Derived.LoopIn
import Derived.Stop.RegionWithIn
open Go.IntKind (u8 u16 i64)
set_option linter.unusedSimpArgs false
open Go Go.S3 Go.Proofs
set_option linter.unusedVariables false
set_option maxRecDepth 100000
namespace Go.Proofs.Ytlgmapcjapofoaa
noncomputable section
def ZiN (k:Int):RT (Bool):=
 .leaf (k==1||(k==2||(k==4||(k==6||(k==8||k==9)))))
def ZeD (k:Int):Bool:=(ZiN k).val
abbrev Zfh:List Sh:=[Sh.one (R.int i64)]
abbrev Zfi:Rs:=Rs.one (Sh.one R.bool)
def ZgZ (k:Int):RT (Bool):=
 .br (bif k==1 then k==1 else bif k==2 then k==2 else bif k==4 then k==4 else bif k==6 then k==6 else bif k==8 then k==8 else k==9)
 (.leaf (true))
 (.leaf (false))
def ZiR (k:Int):Bool:=(ZgZ k).val
def ZkU:Entry:=Z4 Zfh Zfi (λ_=>none) (λa=>ZiR a)
theorem ZiQ:Zc Try.prog 34 ZkU:=
 pureQ 23 [] [] Zfh Zfi trivial Try.func34 Try.call34 trivial (t:=λa=>ZgZ a)
def Zhs (k:Int):RT (Bool):=
 .leaf (k==3||(k==5||k==7))
def ZcC (k:Int):Bool:=(Zhs k).val
abbrev ZdF:List Sh:=[Sh.one (R.int i64)]
abbrev ZdG:Rs:=Rs.one (Sh.one R.bool)
def Zff (k:Int):RT (Bool):=
 .leaf (k==3||(k==5||k==7))
def ZgW (k:Int):Bool:=(Zff k).val
def Zj8:Entry:=Z4 ZdF ZdG (λ_=>none) (λa=>ZgW a)
theorem Zh3:Zc Try.prog 33 Zj8:=
 pureQ 7 [] [] ZdF ZdG trivial Try.func33 Try.call33 trivial (t:=λa=>Zff a)
abbrev ZdH:List Sh:=[Sh.one (R.int i64)]
abbrev ZdI:Rs:=Rs.one (Sh.one (R.int u8))
def Zfg (k:Int):RT (Int):=
 .br (k==1)
 (.leaf (162))
 (.br (k==2)
  (.leaf (130))
  (.br (k==4)
  (.leaf (134))
  (.br (k==5)
   (.leaf (4))
   (.br (k==6)
   (.leaf (66))
   (.br (k==7)
    (.leaf (16))
    (.br (k==8)
    (.leaf (35))
    (.br (k==9)
     (.leaf (3))
     (.br (k==10)
     (.leaf (138))
     (.leaf (0))))))))))
def ZgY (k:Int):Int:=(Zfg k).val
def Zj9:Entry:=Z4 ZdH ZdI (λ_=>none) (λa=>ZgY a)
theorem Zh4:Zc Try.prog 42 Zj9:=
 pureQ 1398103 [] [] ZdH ZdI trivial Try.func42 Try.call42 trivial (t:=λa=>Zfg a)
def Zht (k:Int):RT (Int):=
 .br (k==1)
 (.leaf (162))
 (.br (k==2)
  (.leaf (130))
  (.br (k==4)
  (.leaf (134))
  (.br (k==5)
   (.leaf (4))
   (.br (k==6)
   (.leaf (66))
   (.br (k==7)
    (.leaf (16))
    (.br (k==8)
    (.leaf (35))
    (.br (k==9)
     (.leaf (3))
     (.br (k==10)
     (.leaf (138))
     (.leaf (0))))))))))
def Ze9 (k:Int):Int:=(Zht k).val
abbrev ZdK:List Sh:=[Sh.one (R.int i64)]
abbrev ZdL:Rs:=Rs.tup [Sh.one R.bool,Sh.one R.bool,Sh.one R.bool]
def Zfj (k:Int):RT (QT1):=
 .br (k==1)
 (.leaf ((false,true,true)))
 (.br (bif k==2 then k==2 else bif k==4 then k==4 else k==11)
  (.leaf ((false,true,false)))
  (.br (bif k==3 then k==3 else k==5)
  (.leaf ((false,false,true)))
  (.br (k==6)
   (.leaf ((true,true,false)))
   (.br (k==7)
   (.leaf ((true,false,true)))
   (.br (bif k==8 then k==8 else bif k==9 then k==9 else k==12)
    (.leaf ((true,true,true)))
    (.leaf ((false,false,false))))))))
def Zg1 (k:Int):QT1:=(Zfj k).val
def Zkb:Entry:=Z4 ZdK ZdL (λ_=>none) (λa=>Zg1 a)
theorem Zh5:Zc Try.prog 41 Zkb:=
 pureQ 692575 [] [] ZdK ZdL trivial Try.func41 Try.call41 trivial (t:=λa=>Zfj a)
def Zhu (k:Int):RT (QT1):=
 .br (k==1)
 (.leaf ((false,true,true)))
 (.br (bif k==2 then k==2 else bif k==4 then k==4 else k==11)
  (.leaf ((false,true,false)))
  (.br (bif k==3 then k==3 else k==5)
  (.leaf ((false,false,true)))
  (.br (k==6)
   (.leaf ((true,true,false)))
   (.br (k==7)
   (.leaf ((true,false,true)))
   (.br (bif k==8 then k==8 else bif k==9 then k==9 else k==12)
    (.leaf ((true,true,true)))
    (.leaf ((false,false,false))))))))
def ZcD (k:Int):QT1:=(Zhu k).val
abbrev ZeF:List Sh:=[Sh.one (R.int i64)]
abbrev ZeG:Rs:=Rs.one (Sh.one R.bool)
def ZfX (k:Int):RT (Bool):=
 .leaf (k !=10&&(k !=11&&k !=12))
def Zhy (k:Int):Bool:=(ZfX k).val
def ZdN:Entry:=Z4 ZeF ZeG (λ_=>none) (λa=>Zhy a)
theorem Zg2:Zc Try.prog 43 ZdN:=
 pureQ 7 [] [] ZeF ZeG trivial Try.func43 Try.call43 trivial (t:=λa=>ZfX a)
theorem Zj4 (k):ZiR k=ZeD k:=by simp[ZiR,ZgZ,ZeD,ZiN,RT.val]
theorem Ziv (k):ZgW k=ZcC k:=by simp[ZgW,Zff,ZcC,Zhs,RT.val]
theorem ZiC (k):ZgY k=Ze9 k:=by simp[ZgY,Zfg,Ze9,Zht,RT.val]
theorem Zi5 (k):Zg1 k=ZcD k:=by simp[Zg1,Zfj,ZcD,Zhu,RT.val]
def ZbD:Entry:=Z4 Zfh Zfi (λ_=>none) (λa=>ZeD a)
theorem ZcF:Zc Try.prog 34 ZbD:=ZiQ.tot (λa h=>by simp) (λa h=>Zj4 _)
def ZaX:Entry:=Z4 ZdF ZdG (λ_=>none) (λa=>ZcC a)
theorem ZbY:Zc Try.prog 33 ZaX:=Zh3.tot (λa h=>by simp) (λa h=>Ziv _)
def ZdJ:Entry:=Z4 ZdH ZdI (λ_=>none) (λa=>Ze9 a)
theorem ZgX:Zc Try.prog 42 ZdJ:=Zh4.tot (λa h=>by simp) (λa h=>ZiC _)
def ZdM:Entry:=Z4 ZdK ZdL (λ_=>none) (λa=>ZcD a)
theorem Zg0:Zc Try.prog 41 ZdM:=Zh5.tot (λa h=>by simp) (λa h=>Zi5 _)
def ZR:Entry:=.tree (Zbg (envX Try.prog [] [] 7 8) Try.f31)
theorem ZaK:Zc Try.prog 31 ZR:=Zgh (P:=Try.prog) (n:=7) (k:=8) (l:=[]) (ol:=[]) trivial Try.func31 rfl (by kernel_rfl) Try.call31 trivial
def ZH:Entry:=.tree (Zbg (envX Try.prog [] [] 7 8) Try.f32)
theorem Zaf:Zc Try.prog 32 ZH:=Zgh (P:=Try.prog) (n:=7) (k:=8) (l:=[]) (ol:=[]) trivial Try.func32 rfl (by kernel_rfl) Try.call32 trivial
def Zbo:Entry:=.tree (Zbg (envX Try.prog [(31,ZR),(32,ZH),(33,ZaX),(34,ZbD),(41,ZdM)] [] 63 8) Try.f35)
theorem ZcL:Zc Try.prog 35 Zbo:=Zgh (P:=Try.prog) (n:=63) (k:=8) (l:=[(31,ZR),(32,ZH),(33,ZaX),(34,ZbD),(41,ZdM)]) (ol:=[]) ⟨ZaK,Zaf,ZbY,ZcF,Zg0,Tv⟩ Try.func35 rfl (by kernel_rfl) Try.call35 trivial
def Za0:Entry:=.tree (Zbg (envX Try.prog [(32,ZH),(33,ZaX),(34,ZbD),(42,ZdJ)] [] 63 8) Try.f36)
theorem Zb0:Zc Try.prog 36 Za0:=Zgh (P:=Try.prog) (n:=63) (k:=8) (l:=[(32,ZH),(33,ZaX),(34,ZbD),(42,ZdJ)]) (ol:=[]) ⟨Zaf,ZbY,ZcF,ZgX,Tv⟩ Try.func36 rfl (by kernel_rfl) Try.call36 trivial
abbrev ZiS:List Sh:=[Sh.one (R.int i64),Sh.agg (R.pair (R.int i64) (R.pair (RY) (R.pair (R.int u8) (R.pair (R.int u16) (R.pair R.bool R.bool)))))]
abbrev ZiT:Rs:=Rs.one (Sh.agg ZcB)
def ZkA (chip:Int) (s:ITMT):RT PINT:=
 let x1:Int:=bif decide (s.1>=1)&&decide (s.1<=7) then s.2.1.2.1 else 0
 let x2:=s.1==2||(s.1==7||s.1==3)
 let x3:=x2&&ZcC s.2.1.1
 let x4:Int:=bif s.1==3&&ZeD s.2.1.1 then s.2.2.1 else bif x3 then s.2.1.2.2.1 else 0
 let x5:=s.1==1&&(s.2.1.1 !=11&&s.2.1.1 !=12)
 .br (chip==2)
 (.leaf ((s.1,x1,bif s.1==1 then u8.wrap s.2.1.2.1 else x4,false,false,false,false,s.1==1,decide (s.1>=1)&&decide (s.1<=7)&&(ZcD s.2.1.1).1,decide (s.1>=1)&&decide (s.1<=7)&&(ZcD s.2.1.1).2.1,decide (s.1>=1)&&decide (s.1<=7)&&(ZcD s.2.1.1).2.2,x2&&(ZeD s.2.1.1&& !(s.2.1.1==8||s.2.1.1==9)),x2&&(s.2.1.1==8||s.2.1.1==9),s.2.2.2.2.2,x3,s.1==8,s.1==8||(s.1==9||s.1==10))))
 (.leaf ((s.1,bif s.1==9 then s.2.2.2.1 else x1,bif x5 then Ze9 s.2.1.1 else x4,x5,x2&&ZeD s.2.1.1,s.1==7||s.1==9,s.2.2.2.2.1,false,false,false,false,false,false,false,bif s.1==7 then ZcC s.2.1.1 else s.1==3&&ZcC s.2.1.1,s.1==8,s.1==8)))
def Zln (chip:Int) (s:ITMT):PINT:=(ZkA chip s).val
def ZiU:Entry:=Z4 ZiS ZiT (λ_=>none) (λa=>Zln a.1 a.2)
theorem Zka:Zc Try.prog 24 ZiU:=
 pureQ 63 [(31,ZR),(32,ZH),(33,ZaX),(34,ZbD),(35,Zbo),(36,Za0)] [] ZiS ZiT ⟨ZaK,Zaf,ZbY,ZcF,ZcL,Zb0,Tv⟩ Try.func24 Try.call24 trivial (t:=λa=>ZkA a.1 a.2)
abbrev ZkG:List Sh:=[Sh.one (R.int i64),Sh.one (R.int i64),Sh.one (R.int i64)]
abbrev ZkH:Rs:=Rs.one (Sh.one (R.int i64))
def Zig (n:Int) (low:Int) (high:Int):RT (Int):=
 .leaf (if (if high<n then high else n)>low then if high<n then high else n else low)
def gLim (n:Int) (low:Int) (high:Int):Int:=(Zig n low high).val
def ZlA:Entry:=Z4 ZkG ZkH (λ_=>none) (λa=>gLim a.1 a.2.1 a.2.2)
theorem Zk8:Zc Try.prog 30 ZlA:=
 pureQ 127 [] [] ZkG ZkH trivial Try.func30 Try.call30 trivial (t:=λa=>Zig a.1 a.2.1 a.2.2)
abbrev ZkE:List Sh:=[Sh.agg Z9]
abbrev ZkF:Rs:=Rs.tup [Sh.one (R.int i64),Sh.one (R.int i64)]
def Zif (x:ITMT):RT (Int×Int):=
 .br (x.1==2)
 (.leaf ((8,gLim x.2.2.2.1 0 65536)))
 (.br (x.1==3)
  (.leaf ((9,gLim x.2.2.2.1 0 65536)))
  (.br (x.1==4)
  (.leaf ((10,gLim x.2.2.2.1 0 65536)))
  (.leaf ((0,0)))))
def gRep (x:ITMT):Int×Int:=(Zif x).val
def Zk7:Entry:=Z4 ZkE ZkF (λ_=>none) (λa=>gRep a)
theorem Zjn:Zc Try.prog 28 Zk7:=
 pureQ 1359 [(30,ZlA)] [] ZkE ZkF ⟨Zk8,Tv⟩ Try.func28 Try.call28 trivial (t:=λa=>Zif a)
def Zbp:Entry:=.tree (Zbg (envX Try.prog [(43,ZdN)] [] 7 8) Try.f40)
theorem ZcM:Zc Try.prog 40 Zbp:=Zgh (P:=Try.prog) (n:=7) (k:=8) (l:=[(43,ZdN)]) (ol:=[]) ⟨Zg2,Tv⟩ Try.func40 rfl (by kernel_rfl) Try.call40 trivial
abbrev Zjo:List Sh:=[Sh.agg Z9,Sh.one R.bool]
abbrev Zjp:Rs:=Rs.one (Sh.one R.bool)
def ZkI (x:ITMT) (f:Bool):RT (Bool):=
 let p1:=(decide (x.2.2.2.1>x.2.1.2.2.2))::(decide (x.2.2.2.1<1))::(decide (x.2.1.2.2.2>6))::(decide (x.2.1.2.2.2<3))::[]
 .br (orR p1 (!f&&x.2.2.2.1 !=x.2.1.2.2.2))
 (.leaf (false))
 (.br (decide (x.2.2.1<0)||decide (x.2.2.2.1<2)&&x.2.2.1 !=0)
  (.leaf (false))
  (.leaf (x.2.2.1==0||Zhy x.2.1.1)))
def ZlB (x:ITMT) (f:Bool):Bool:=(ZkI x f).val
def Zjq:Entry:=Z4 Zjo Zjp (λ_=>none) (λa=>ZlB a.1 a.2)
theorem ZhL:Zc Try.prog 27 Zjq:=
 pureQ 137438954047 [(40,Zbp)] [] Zjo Zjp ⟨ZcM,Tv⟩ Try.func27 Try.call27 trivial (t:=λa=>ZkI a.1 a.2)
end
end Go.Proofs.Ytlgmapcjapofoaa
namespace Go.Proofs.Ytlgmapcjapofoaa
open Go Go.S3 Go.Proofs Go.RowKit Go.Shelf
attribute [local go_sem] Oper.semAt_some
noncomputable section
set_option maxRecDepth 100000 in
set_option maxHeartbeats 2000000 in
theorem ZkC (F:Fence) (n:Nat) (h:F.fn 30) (hro:F.round=none) (a lo hi:Int) (w:World):
  CallsIn F n Try.prog 30 #[.int .i64 a,.int .i64 lo,.int .i64 hi] w λe w'=>e=.returned (.int .i64 (gLim a lo hi))/\w'=w:=by
 refine callsIn_of_wp Try.func30 rfl h ?_ hro
 simp only[Try.ntmps30,List.size_toArray,List.length_cons,List.length_nil,Nat.reduceAdd,Nat.reduceSub,Array.replicate_succ,Array.replicate_zero,List.push_toArray,List.append_toArray,List.nil_append,List.cons_append]
 gi_wp2
 all_goals go_ret
 all_goals refine⟨?_,rfl⟩
 all_goals simp[*,gLim,Zig,RT.val]
 all_goals omega
abbrev ZX (x:ITMT):Array Value:= #[.int .i64 x.1,.int .i64 x.2.1.1,.int .u16 x.2.1.2.1,.int .u8 x.2.1.2.2.1,.int .i64 x.2.1.2.2.2,.int .i64 x.2.2.1,.int .i64 x.2.2.2.1,.bool x.2.2.2.2.1,.bool x.2.2.2.2.2]
set_option maxRecDepth 100000 in
set_option maxHeartbeats 4000000 in
theorem Zlm (F:Fence) (n:Nat) (h:F.fn 28) (hl:F.fn 30) (hro:F.round=none) (hn:1<=n) (x:ITMT) (w:World):
  CallsIn F n Try.prog 28 #[.agg (ZX x)] w λe w'=>e=.returned (.tuple #[.int .i64 (gRep x).1,.int .i64 (gRep x).2])/\w'=w.alloc (.cells (ZX x) 44):=by
 refine callsIn_of_wp Try.func28 rfl h ?_ hro
 simp only[Try.ntmps28,List.size_toArray,List.length_cons,List.length_nil,Nat.reduceAdd,Nat.reduceSub,Array.replicate_succ,Array.replicate_zero,List.push_toArray,List.append_toArray,List.nil_append,List.cons_append]
 gi_wp2_with (gi_at_call 30;refine (ZkC F (n-1) hl hro _ _ _ _).mono ?_;rintro e w' ⟨rfl,rfl⟩)
 all_goals go_ret2
 all_goals refine⟨?_,rfl⟩
 all_goals simp[*,gRep,Zif,RT.val]
def stsC (w m:Nat):List Int:=(List.range m).flatMap λk=>((k+1:Nat):Int)::bif k==1 then List.replicate w 7 else []
theorem ZdA (w m:Nat):stsC w (m+1)=stsC w m++((m+1:Nat):Int)::bif m==1 then List.replicate w 7 else []:=by
 simp[stsC,List.range_succ]
def stsL (x:ITMT):List Int:=bif x.1 !=1 then List.replicate (gRep x).2.toNat (gRep x).1 else stsC (min x.2.2.1 65536).toNat (gLim x.2.2.2.1 1 (gLim x.2.1.2.2.2 3 6)).toNat
theorem Ziz (w:Nat):∀(m k:Nat),k<=m->(stsC w k).length<=(stsC w m).length
 |0,k,h=>by rw[show k=0 by omega];exact Nat.le_refl _
 |m+1,k,h=>by
  by_cases e:k=m+1
  ·rw[e];exact Nat.le_refl _
  ·have:=Ziz w m k (by omega)
   rw[ZdA,List.length_append];omega
def Zcw (W:World) (B:Nat) (x:ITMT):Prop:=W.heap[B]? =some (.cells (ZX x) 44)
theorem Zcw.cell {W:World} {B:Nat} {x:ITMT} (h:Zcw W B x) (i:Nat) (hi:i<9):W.cell? ⟨B,i,none⟩=some ((ZX x).getD i undef):=by
 unfold Zcw at h
 simp only[World.cell?,h]
 match i,hi with
 |0,_=>rfl
 |1,_=>rfl
 |2,_=>rfl
 |3,_=>rfl
 |4,_=>rfl
 |5,_=>rfl
 |6,_=>rfl
 |7,_=>rfl
 |8,_=>rfl
 |i+9,hi=>omega
def KpB (B:Nat) (W W':World):Prop:=W'.heap[B]? =W.heap[B]?
set_option maxRecDepth 100000 in
set_option maxHeartbeats 8000000 in
theorem ZkR (F:Fence) (n:Nat) (h:F.fn 29) (hr:F.fn 28) (hl:F.fn 30) (hro:F.round=none) (hn:2<=n) (y B N:Nat) (x:ITMT) (J Jx:List Int->World->Prop) (W:World) (hJo:AbidesFrom W.heap.size J)
  (hN:(stsL x).length<=N)
  (hY:∀pre t W1,0<=t->t<=10->J pre W1->pre.length<N->YieldAt F (n-1) Try.prog y #[.int .i64 t] W1 λe W'=>
   (e=.returned (.bool true)/\J (pre++[t]) W'/\KpB B W1 W')\/(e=.returned (.bool false)/\Jx (pre++[t]) W'))
  (hB:Zcw W B x) (h0:J [] W):
  CallsIn F n Try.prog 29 #[.func (.yield y) #[] #[],.pointer (some ⟨B,0,none⟩)] W λe W'=>(∃v,e=.returned v)/\
   ((∃ys,ys=stsL x/\J ys W')\/(∃pre,True/\Jx pre W')):=by
 refine callsIn_of_wp Try.func29 rfl h ?_ hro
 simp only[Try.ntmps29,List.size_toArray,List.length_cons,List.length_nil,Nat.reduceAdd,Nat.reduceSub,Array.replicate_succ,Array.replicate_zero,List.push_toArray,List.append_toArray,List.nil_append,List.cons_append]
 obtain⟨L,hL⟩:∃L,L=stsL x:=⟨_,rfl⟩
 rw[<-hL] at hN|-
 have c0:=hB.cell 0 (by omega)
 have c1:=hB.cell 1 (by omega)
 have c2:=hB.cell 2 (by omega)
 have c3:=hB.cell 3 (by omega)
 have c4:=hB.cell 4 (by omega)
 have c5:=hB.cell 5 (by omega)
 have c6:=hB.cell 6 (by omega)
 have c7:=hB.cell 7 (by omega)
 have c8:=hB.cell 8 (by omega)
 simp[ZX,Array.getD] at c0 c1 c2 c3 c4 c5 c6 c7 c8
 have hn1:1<=n:=by omega
 gi_wp2_with (gi_at_call 28;refine (Zlm F (n-1) hr hl hro (by omega) x _).mono ?_;rintro e w' ⟨rfl,rfl⟩)
 ·have hx:(x.1 !=1)=true:=by assumption
  have eL:stsL x=List.replicate (gRep x).2.toNat (gRep x).1:=by unfold stsL;rw[hx];rfl
  rw[eL] at hL
  rw[hL,List.length_replicate] at hN
  have hJ1:J [] (W.alloc (.cells (ZX x) 44)):=hJo _ _ _ none h0 (World.grownBy_alloc W _ none) (λr e=>by cases e)
  clear hJo h0 hB c0 c1 c2 c3 c4 c5 c6 c7 c8 eL
  have htm:0<=(gRep x).2/\(gRep x).2<=65536:=by
   unfold gRep Zif
   simp only[gLim,Zig,RT.val]
   cases x.1==2<;>cases x.1==3<;>cases x.1==4<;>simp[RT.val]<;>omega
  obtain⟨ht0,ht1⟩:=htm
  have hst:0<=(gRep x).1/\(gRep x).1<=10:=by
   unfold gRep Zif
   cases x.1==2<;>cases x.1==3<;>cases x.1==4<;>simp[RT.val]
  generalize (gRep x).1=st at*
  generalize (gRep x).2=tm at*
  subst hL
  gi_wp2
  gi_loopw [17] (λi wr=>∃k:Nat,k<=tm.toNat/\i=.int .i64 (k:Int)/\J (List.replicate k st) wr) (λi _=>tm.toNat-(intOf i).toNat)
  case atStart=>exact⟨0,Nat.zero_le _,rfl,hJ1⟩
  case round=>
   obtain⟨k,hk,rfl,hJs⟩:=hrel
   by_cases hlt:(k:Int)<tm
   ·obtain⟨fn,tmps,assign,body,hy,hR⟩:=hY _ st wr hst.1 hst.2 hJs (by rw[List.length_replicate];omega)
    have hb:(k:Int)+1<=65536:=by omega
    have hb0:(0:Int)<=k:=by omega
    gi_wp2
    ·refine hR.mono ?_
     rintro e W3 (⟨rfl,hJ3,hk3⟩|⟨rfl,hJx3⟩)
     ·gi_wp2
      go_roundw
      case rel=>exact⟨k+1,by omega,rfl,by rw[List.replicate_succ'];exact hJ3⟩
      case measure=>simp[intOf];omega
     ·gi_wp2
      refine bodyPost_ret (results_none rfl _ _ _) rfl ?_
      exact⟨⟨_,rfl⟩,.inr ⟨_,trivial,hJx3⟩⟩
   ·gi_wp2
    refine bodyPost_ret (results_none rfl _ _ _) rfl ?_
    have e5:tm.toNat=k:=by omega
    rw[<-e5] at hJs
    exact⟨⟨_,rfl⟩,.inl hJs⟩
 ·refine wpIn_mono (Q:=λe a' w'=>e=.normal/\a'={tmps:= #[.func (.yield y) #[] #[],.pointer (some ⟨B,0,none⟩),undef,undef,undef,.int .i64 (gLim x.2.2.2.1 1 (gLim x.2.1.2.2.2 3 6)),undef,undef,.pointer (some ⟨B,0,none⟩),.int .i64 x.1,.bool false,undef,undef,undef,undef,undef,undef,undef,undef,undef,undef,undef,undef,undef,.pointer (some ⟨B,6,none⟩),.int .i64 x.2.2.2.1,.pointer (some ⟨B,1,none⟩),.pointer (some ⟨B,4,none⟩),.int .i64 x.2.1.2.2.2,.int .i64 (gLim x.2.1.2.2.2 3 6),.int .i64 (gLim x.2.2.2.1 1 (gLim x.2.1.2.2.2 3 6)),undef,undef,undef,undef,undef,undef,undef,undef,undef,undef,undef,undef,undef,undef,undef,undef,undef,undef,undef,undef,undef,undef,undef],defers:=[]}/\w'=W.drew) ?reg ?_
  case reg=>
   gi_region_with (gi_at_call 30;refine (ZkC F (n-1) hl hro _ _ _ _).mono ?_;rintro e w' ⟨rfl,rfl⟩)
   all_goals exact⟨rfl,rfl,rfl⟩
  rintro e a' w' ⟨rfl,rfl,rfl⟩
  have hx:(x.1 !=1)=false:=by assumption
  have eL:stsL x=stsC (min x.2.2.1 65536).toNat (gLim x.2.2.2.1 1 (gLim x.2.1.2.2.2 3 6)).toNat:=by unfold stsL;rw[hx];rfl
  have hm1:1<=gLim x.2.2.2.1 1 (gLim x.2.1.2.2.2 3 6)/\gLim x.2.2.2.1 1 (gLim x.2.1.2.2.2 3 6)<=6:=by simp only[gLim,Zig,RT.val];omega
  dsimp only
  rw[eL] at hL
  have hJ1:J [] W.drew:=hJo _ _ _ none h0 ⟨rfl,rfl,rfl,Nat.le_refl _,λ_ _ _=>rfl⟩ (λr e=>by cases e)
  have hB1:Zcw W.drew B x:=hB
  clear hJo h0 hB c0 c1 c2 c3 c4 c5 c6 c7 c8 eL
  generalize gLim x.2.2.2.1 1 (gLim x.2.1.2.2.2 3 6)=g at*
  obtain⟨m,rfl⟩:∃m:Nat,g=(m:Int):=⟨g.toNat,by omega⟩
  generalize W.drew=W0 at*
  rw[Int.toNat_natCast] at hL
  generalize hwn:(min x.2.2.1 65536).toNat=wn at*
  subst hL
  gi_wp2
  gi_loopw [6] (λi wr=>∃k:Nat,k<=m/\i=.int .i64 ((k:Int)+1)/\J (stsC wn k) wr/\Zcw wr B x) (λi _=>m+1-(intOf i).toNat)
  case atStart=>exact⟨0,Nat.zero_le _,rfl,by simpa [stsC] using hJ1,hB1⟩
  case round=>
   obtain⟨k,hk,rfl,hJs,hBr⟩:=hrel
   by_cases hlt:k<m
   ·have c5:=hBr.cell 5 (by omega)
    simp[ZX,Array.getD] at c5
    have hlen:∀j:Nat,j<=(bif k==1 then wn else 0)->(stsC wn k++((k+1:Nat):Int)::List.replicate j 7).length<=(stsC wn m).length:=by
     intro j hj
     refine Nat.le_trans ?_ (Ziz wn m (k+1) hlt)
     rw[ZdA]
     simp only[List.length_append,List.length_cons,List.length_replicate]
     cases hk1:k==1<;>rw[hk1] at hj<;>simp at hj|- <;>omega
    obtain⟨fn,tmps,assign,body,hy,hR⟩:=hY _ ((k:Int)+1) wr (by omega) (by omega) hJs (by have:=hlen 0 (Nat.zero_le _);simp at this;omega)
    have hb:(k:Int)+1<=6:=by omega
    have hb0:(0:Int)<=k:=by omega
    gi_wp2
    refine hR.mono ?_
    rintro e W3 (⟨rfl,hJ3,hk3⟩|⟨rfl,hJx3⟩)
    ·gi_wp2
     gi_loopw [7] (λi wr=>∃j:Nat,j<=(bif k==1 then wn else 0)/\i=.int .i64 (j:Int)/\J (stsC wn k++((k+1:Nat):Int)::List.replicate j 7) wr/\Zcw wr B x) (λi _=>wn+1-(intOf i).toNat)
     case atStart=>exact⟨0,Nat.zero_le _,rfl,by simpa using hJ3,hk3.trans hBr⟩
     case round=>
      obtain⟨j,hj,rfl,hJs,hBr⟩:=hrel
      have c5:=hBr.cell 5 (by omega)
      simp[ZX,Array.getD] at c5
      have hwn0:wn<=65536:=by omega
      have hj65:(j:Int)<=65536:=by cases hq:k==1<;>rw[hq] at hj<;>simp at hj<;>omega
      have hj0:(0:Int)<=j:=by omega
      by_cases hc:k=1/\j<wn
      ·obtain⟨fn,tmps,assign,body,hy,hR⟩:=hY _ 7 wr (by omega) (by omega) hJs (by have:=hlen (j+1) (by simp[hc.1];omega);simp at this|-;omega)
       have hnext:∀W,J ((stsC wn k++((k+1:Nat):Int)::List.replicate j 7)++[7]) W->J (stsC wn k++((k+1:Nat):Int)::List.replicate (j+1) 7) W:=by
        intro W h
        rw[List.replicate_succ'];simpa using h
       have hj1:j+1<=(bif k==1 then wn else 0):=by simp[hc.1];omega
       gi_wp2
       all_goals first
        |(exfalso;omega)
        |skip
       all_goals
        refine hR.mono ?_
        rintro e W5 (⟨rfl,hJ5,hk5⟩|⟨rfl,hJx5⟩)
       all_goals gi_wp2
       all_goals first
        |(refine bodyPost_ret (results_none rfl _ _ _) rfl ?_
          exact⟨⟨_,rfl⟩,.inr ⟨_,trivial,hJx5⟩⟩)
        |(go_roundw
          case rel=>
           simp only[show (k:Int)+1=2 by omega]
           exact⟨_,_,_,_,_,_,_,_,_,_,_,_,_,_,_,⟨j+1,hj1,rfl,hnext _ hJ5,hk5.trans hBr⟩,rfl⟩
          case measure=>simp[intOf];omega)
      ·gi_wp2
       all_goals first
        |(exfalso;omega)
        |skip
       all_goals
        have hjj:j=bif k==1 then wn else 0:=by
         by_cases hk1:k=1
         ·have:¬j<wn:=λh=>hc ⟨hk1,h⟩
          subst hk1
          simp at hj|-;omega
         ·have:(k==1)=false:=by simpa using hk1
          rw[this] at hj|-
          exact Nat.le_zero.1 hj
        have hfin:J (stsC wn (k+1)) wr:=by
         rw[ZdA]
         rw[hjj] at hJs
         cases hk1:k==1<;>rw[hk1] at hJs<;>simpa using hJs
        refine⟨⟨k+1,by omega,by first|rfl|(congr 1;omega),hfin,hBr⟩,?_⟩
        simp[intOf];omega
    ·gi_wp2
     refine bodyPost_ret (results_none rfl _ _ _) rfl ?_
     exact⟨⟨_,rfl⟩,.inr ⟨_,trivial,hJx3⟩⟩
   ·have hb:(k:Int)<=6:=by omega
    have hb0:(0:Int)<=k:=by omega
    gi_wp2
    refine bodyPost_end (results_none rfl _ _ _) rfl ?_
    exact⟨⟨_,rfl⟩,.inl ⟨_,rfl,by rw[show m=k by omega];exact hJs⟩⟩
set_option maxRecDepth 100000 in
set_option maxHeartbeats 2000000 in
theorem Zli (F:Fence) (n:Nat) (h:F.fn 23) (hro:F.round=none) (x:ITMT) (w:World):
  CallsIn F n Try.prog 23 #[.agg (ZX x)] w λe w'=>e=.returned (.func (.func 29) #[] #[.pointer (some ⟨w.heap.size,0,none⟩)])/\w'=w.alloc (.cells (ZX x) 44):=by
 refine callsIn_of_wp Try.func23 rfl h ?_ hro
 simp only[Try.ntmps23,List.size_toArray,List.length_cons,List.length_nil,Nat.reduceAdd,Nat.reduceSub,Array.replicate_succ,Array.replicate_zero,List.push_toArray,List.append_toArray,List.nil_append,List.cons_append]
 gi_wp2
 go_ret
 exact⟨rfl,rfl⟩
abbrev StT:={t:Int//0<=t/\t<=10}
abbrev stEnc (t:StT):Array Value:= #[.int .i64 t.1]
theorem Ziy (F:Fence) (n:Nat) (h:F.fn 29) (hr:F.fn 28) (hl:F.fn 30) (hro:F.round=none) (hn:2<=n) (B:Nat) (x:ITMT) (w:World) (hBs:B<w.heap.size) (hB:Zcw w B x):
  SeqStopsK F n Try.prog 29 #[.pointer (some ⟨B,0,none⟩)] stEnc (KpB B) (λys=>ys.map (·.1)=stsL x) (λ_=>True) (stsL x).length w:=λy J Jx W hW hJ _ hY h0=>by
 refine (ZkR F n h hr hl hro hn y B (stsL x).length x (λl W=>∃l':List StT,l'.map (·.1)=l/\J l' W) (λl W=>∃l':List StT,Jx l' W) W ?_ (Nat.le_refl _) ?_ ?_ ⟨[],rfl,h0⟩).mono ?_
 ·rintro l A C row ⟨l',e,hl'⟩ hg hr'
  exact⟨l',e,hJ l' A C row hl' hg hr'⟩
 ·rintro pre t W1 t0 t1 ⟨l',e,hl'⟩ hlen
  have hlen':l'.length<(stsL x).length:=by rw[<-e,List.length_map] at hlen;exact hlen
  obtain⟨fn,tmps,assign,body,hy,hR⟩:=hY l' ⟨t,t0,t1⟩ W1 hl' hlen'
  refine⟨fn,tmps,assign,body,hy,hR.mono ?_⟩
  rintro e' W' (⟨e1,e2,e3⟩|⟨e1,e2⟩)
  ·exact .inl ⟨e1,⟨l'++[⟨t,t0,t1⟩],by simp[e],e2⟩,e3⟩
  ·exact .inr ⟨e1,_,e2⟩
 ·exact (hW.block B hBs).trans hB
 ·rintro e W' ⟨hv,(⟨ys,e1,l',e2,e3⟩|⟨pre,_,l',e3⟩)⟩
  ·exact⟨hv,.inl ⟨l',e2.trans e1,e3⟩⟩
  ·exact⟨hv,.inr ⟨l',trivial,e3⟩⟩
end
end Go.Proofs.Ytlgmapcjapofoaa
