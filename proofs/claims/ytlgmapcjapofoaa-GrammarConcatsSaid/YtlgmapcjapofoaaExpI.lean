import Derived.Test.YtlgmapcjapofoaaS3D
import Derived.Test.YtlgmapcjapofoaaProg
import Derived.Test.YtlgmapcjapofoaaS3Box1
import Derived.RangeFuncNested
import Derived.RangeFuncLeaves
import Derived.Shelf.Abstract
import Derived.WalkKit
import Derived.OwnWalkIn
import Derived.TacticsInMore
import Derived.LoopNIn
import Derived.LoopIn
import Derived.Stop.RegionWithIn
open Go.IntKind (u8 u16 i64)
set_option linter.unusedSimpArgs false
open Go Go.S3 Go.Proofs
set_option linter.unusedVariables false
set_option maxRecDepth 100000
namespace Go.Proofs.Ytlgmapcjapofoaa
noncomputable section
def ZjO (k:Int):RT (Bool):=
 .leaf (k==1||(k==2||(k==4||(k==6||(k==8||k==9)))))
def Ze6 (k:Int):Bool:=(ZjO k).val
abbrev ZfP:List Sh:=[Sh.one (R.int i64)]
abbrev ZfQ:Rs:=Rs.one (Sh.one R.bool)
def ZhA (k:Int):RT (Bool):=
 .br (bif k==1 then k==1 else bif k==2 then k==2 else bif k==4 then k==4 else bif k==6 then k==6 else bif k==8 then k==8 else k==9)
 (.leaf (true))
 (.leaf (false))
def ZjS (k:Int):Bool:=(ZhA k).val
def Zmd:Entry:=Z1 ZfP ZfQ (λ_=>none) (λa=>ZjS a)
theorem ZjR:Za Try.prog 34 Zmd:=
 pureQ 23 [] [] ZfP ZfQ trivial Try.func34 Try.call34 trivial (t:=λa=>ZhA a)
def Zim (k:Int):RT (Bool):=
 .leaf (k==3||(k==5||k==7))
def Zc0 (k:Int):Bool:=(Zim k).val
abbrev Zd0:List Sh:=[Sh.one (R.int i64)]
abbrev Zd1:Rs:=Rs.one (Sh.one R.bool)
def ZfN (k:Int):RT (Bool):=
 .leaf (k==3||(k==5||k==7))
def Zhx (k:Int):Bool:=(ZfN k).val
def Zlg:Entry:=Z1 Zd0 Zd1 (λ_=>none) (λa=>Zhx a)
theorem Zi2:Za Try.prog 33 Zlg:=
 pureQ 7 [] [] Zd0 Zd1 trivial Try.func33 Try.call33 trivial (t:=λa=>ZfN a)
abbrev Zd2:List Sh:=[Sh.one (R.int i64)]
abbrev Zd3:Rs:=Rs.one (Sh.one (R.int u8))
def ZfO (k:Int):RT (Int):=
 .br (k==1)
 (.leaf (162))
 (.br (k==2)
  (.leaf (130))
  (.br (k==4)
  (.leaf (134))
  (.br (k==5)
   (.leaf (4))
   (.br (k==6)
   (.leaf (66))
   (.br (k==7)
    (.leaf (16))
    (.br (k==8)
    (.leaf (35))
    (.br (k==9)
     (.leaf (3))
     (.br (k==10)
     (.leaf (138))
     (.leaf (0))))))))))
def Zhz (k:Int):Int:=(ZfO k).val
def Zlh:Entry:=Z1 Zd2 Zd3 (λ_=>none) (λa=>Zhz a)
theorem Zi3:Za Try.prog 42 Zlh:=
 pureQ 1398103 [] [] Zd2 Zd3 trivial Try.func42 Try.call42 trivial (t:=λa=>ZfO a)
def Zin (k:Int):RT (Int):=
 .br (k==1)
 (.leaf (162))
 (.br (k==2)
  (.leaf (130))
  (.br (k==4)
  (.leaf (134))
  (.br (k==5)
   (.leaf (4))
   (.br (k==6)
   (.leaf (66))
   (.br (k==7)
    (.leaf (16))
    (.br (k==8)
    (.leaf (35))
    (.br (k==9)
     (.leaf (3))
     (.br (k==10)
     (.leaf (138))
     (.leaf (0))))))))))
def ZfH (k:Int):Int:=(Zin k).val
abbrev Zd5:List Sh:=[Sh.one (R.int i64)]
abbrev Zd6:Rs:=Rs.tup [Sh.one R.bool,Sh.one R.bool,Sh.one R.bool]
def ZfR (k:Int):RT (QT3):=
 .br (k==1)
 (.leaf ((false,true,true)))
 (.br (bif k==2 then k==2 else bif k==4 then k==4 else k==11)
  (.leaf ((false,true,false)))
  (.br (bif k==3 then k==3 else k==5)
  (.leaf ((false,false,true)))
  (.br (k==6)
   (.leaf ((true,true,false)))
   (.br (k==7)
   (.leaf ((true,false,true)))
   (.br (bif k==8 then k==8 else bif k==9 then k==9 else k==12)
    (.leaf ((true,true,true)))
    (.leaf ((false,false,false))))))))
def ZhC (k:Int):QT3:=(ZfR k).val
def Zlj:Entry:=Z1 Zd5 Zd6 (λ_=>none) (λa=>ZhC a)
theorem Zi4:Za Try.prog 41 Zlj:=
 pureQ 692575 [] [] Zd5 Zd6 trivial Try.func41 Try.call41 trivial (t:=λa=>ZfR a)
def Zio (k:Int):RT (QT3):=
 .br (k==1)
 (.leaf ((false,true,true)))
 (.br (bif k==2 then k==2 else bif k==4 then k==4 else k==11)
  (.leaf ((false,true,false)))
  (.br (bif k==3 then k==3 else k==5)
  (.leaf ((false,false,true)))
  (.br (k==6)
   (.leaf ((true,true,false)))
   (.br (k==7)
   (.leaf ((true,false,true)))
   (.br (bif k==8 then k==8 else bif k==9 then k==9 else k==12)
    (.leaf ((true,true,true)))
    (.leaf ((false,false,false))))))))
def Zc1 (k:Int):QT3:=(Zio k).val
abbrev Ze9:List Sh:=[Sh.one (R.int i64)]
abbrev Zfa:Rs:=Rs.one (Sh.one R.bool)
def Zgv (k:Int):RT (Bool):=
 .leaf (k !=10&&(k !=11&&k !=12))
def Zis (k:Int):Bool:=(Zgv k).val
def Zd8:Entry:=Z1 Ze9 Zfa (λ_=>none) (λa=>Zis a)
theorem ZhD:Za Try.prog 43 Zd8:=
 pureQ 7 [] [] Ze9 Zfa trivial Try.func43 Try.call43 trivial (t:=λa=>Zgv a)
theorem Zlc (k):ZjS k=Ze6 k:=by simp[ZjS,ZhA,Ze6,ZjO,RT.val]
theorem Zju (k):Zhx k=Zc0 k:=by simp[Zhx,ZfN,Zc0,Zim,RT.val]
theorem ZjB (k):Zhz k=ZfH k:=by simp[Zhz,ZfO,ZfH,Zin,RT.val]
theorem Zka (k):ZhC k=Zc1 k:=by simp[ZhC,ZfR,Zc1,Zio,RT.val]
def ZbX:Entry:=Z1 ZfP ZfQ (λ_=>none) (λa=>Ze6 a)
theorem Zc3:Za Try.prog 34 ZbX:=ZjR.tot (λa h=>by simp) (λa h=>Zlc _)
def Zbe:Entry:=Z1 Zd0 Zd1 (λ_=>none) (λa=>Zc0 a)
theorem Zcl:Za Try.prog 33 Zbe:=Zi2.tot (λa h=>by simp) (λa h=>Zju _)
def Zd4:Entry:=Z1 Zd2 Zd3 (λ_=>none) (λa=>ZfH a)
theorem Zhy:Za Try.prog 42 Zd4:=Zi3.tot (λa h=>by simp) (λa h=>ZjB _)
def Zd7:Entry:=Z1 Zd5 Zd6 (λ_=>none) (λa=>Zc1 a)
theorem ZhB:Za Try.prog 41 Zd7:=Zi4.tot (λa h=>by simp) (λa h=>Zka _)
def ZU:Entry:=.tree (ZaW (envX Try.prog [] [] 7 8) Try.f31)
theorem ZaV:Za Try.prog 31 ZU:=Zfk (P:=Try.prog) (n:=7) (k:=8) (l:=[]) (ol:=[]) trivial Try.func31 rfl (by kernel_rfl) Try.call31 trivial
def ZJ:Entry:=.tree (ZaW (envX Try.prog [] [] 7 8) Try.f32)
theorem Zam:Za Try.prog 32 ZJ:=Zfk (P:=Try.prog) (n:=7) (k:=8) (l:=[]) (ol:=[]) trivial Try.func32 rfl (by kernel_rfl) Try.call32 trivial
def ZbG:Entry:=.tree (ZaW (envX Try.prog [(31,ZU),(32,ZJ),(33,Zbe),(34,ZbX),(41,Zd7)] [] 63 8) Try.f35)
theorem Zc8:Za Try.prog 35 ZbG:=Zfk (P:=Try.prog) (n:=63) (k:=8) (l:=[(31,ZU),(32,ZJ),(33,Zbe),(34,ZbX),(41,Zd7)]) (ol:=[]) ⟨ZaV,Zam,Zcl,Zc3,ZhB,Tv⟩ Try.func35 rfl (by kernel_rfl) Try.call35 trivial
def Zbi:Entry:=.tree (ZaW (envX Try.prog [(32,ZJ),(33,Zbe),(34,ZbX),(42,Zd4)] [] 63 8) Try.f36)
theorem Zcn:Za Try.prog 36 Zbi:=Zfk (P:=Try.prog) (n:=63) (k:=8) (l:=[(32,ZJ),(33,Zbe),(34,ZbX),(42,Zd4)]) (ol:=[]) ⟨Zam,Zcl,Zc3,Zhy,Tv⟩ Try.func36 rfl (by kernel_rfl) Try.call36 trivial
abbrev ZjT:List Sh:=[Sh.one (R.int i64),Sh.agg (R.pair (R.int i64) (R.pair (RY) (R.pair (R.int u8) (R.pair (R.int u16) (R.pair R.bool R.bool)))))]
abbrev ZjU:Rs:=Rs.one (Sh.agg Za5)
def ZlO (chip:Int) (s:ITMT):RT PINT:=
 let x1:Int:=bif decide (s.1>=1)&&decide (s.1<=7) then s.2.1.2.1 else 0
 let x2:=s.1==2||(s.1==7||s.1==3)
 let x3:=x2&&Zc0 s.2.1.1
 let x4:Int:=bif s.1==3&&Ze6 s.2.1.1 then s.2.2.1 else bif x3 then s.2.1.2.2.1 else 0
 let x5:=s.1==1&&(s.2.1.1 !=11&&s.2.1.1 !=12)
 .br (chip==2) (.leaf ((s.1,x1,bif s.1==1 then u8.wrap s.2.1.2.1 else x4,false,false,false,false,s.1==1,decide (s.1>=1)&&decide (s.1<=7)&&(Zc1 s.2.1.1).1,decide (s.1>=1)&&decide (s.1<=7)&&(Zc1 s.2.1.1).2.1,decide (s.1>=1)&&decide (s.1<=7)&&(Zc1 s.2.1.1).2.2,x2&&(Ze6 s.2.1.1&& !(s.2.1.1==8||s.2.1.1==9)),x2&&(s.2.1.1==8||s.2.1.1==9),s.2.2.2.2.2,x3,s.1==8,s.1==8||(s.1==9||s.1==10)))) (.leaf ((s.1,bif s.1==9 then s.2.2.2.1 else x1,bif x5 then ZfH s.2.1.1 else x4,x5,x2&&Ze6 s.2.1.1,s.1==7||s.1==9,s.2.2.2.2.1,false,false,false,false,false,false,false,bif s.1==7 then Zc0 s.2.1.1 else s.1==3&&Zc0 s.2.1.1,s.1==8,s.1==8)))
def ZmL (chip:Int) (s:ITMT):PINT:=(ZlO chip s).val
def ZjV:Entry:=Z1 ZjT ZjU (λ_=>none) (λa=>ZmL a.1 a.2)
theorem Zli:Za Try.prog 24 ZjV:=
 pureQ 63 [(31,ZU),(32,ZJ),(33,Zbe),(34,ZbX),(35,ZbG),(36,Zbi)] [] ZjT ZjU ⟨ZaV,Zam,Zcl,Zc3,Zc8,Zcn,Tv⟩ Try.func24 Try.call24 trivial (t:=λa=>ZlO a.1 a.2)
abbrev ZlX:List Sh:=[Sh.one (R.int i64),Sh.one (R.int i64),Sh.one (R.int i64)]
abbrev ZlY:Rs:=Rs.one (Sh.one (R.int i64))
def Zh7 (n:Int) (low:Int) (high:Int):RT (Int):=
 .leaf (if (if high<n then high else n)>low then if high<n then high else n else low)
def gLim (n:Int) (low:Int) (high:Int):Int:=(Zh7 n low high).val
def ZmZ:Entry:=Z1 ZlX ZlY (λ_=>none) (λa=>gLim a.1 a.2.1 a.2.2)
theorem Zmt:Za Try.prog 30 ZmZ:=
 pureQ 127 [] [] ZlX ZlY trivial Try.func30 Try.call30 trivial (t:=λa=>Zh7 a.1 a.2.1 a.2.2)
abbrev ZlV:List Sh:=[Sh.agg Zae]
abbrev ZlW:Rs:=Rs.tup [Sh.one (R.int i64),Sh.one (R.int i64)]
def Zji (x:ITMT):RT (Int×Int):=
 .br (x.1==2) (.leaf ((8,gLim x.2.2.2.1 0 65536))) (.br (x.1==3) (.leaf ((9,gLim x.2.2.2.1 0 65536))) (.br (x.1==4) (.leaf ((10,gLim x.2.2.2.1 0 65536))) (.leaf ((0,0)))))
def gRep (x:ITMT):Int×Int:=(Zji x).val
def Zms:Entry:=Z1 ZlV ZlW (λ_=>none) (λa=>gRep a)
theorem Zkt:Za Try.prog 28 Zms:=
 pureQ 1359 [(30,ZmZ)] [] ZlV ZlW ⟨Zmt,Tv⟩ Try.func28 Try.call28 trivial (t:=λa=>Zji a)
def ZbH:Entry:=.tree (ZaW (envX Try.prog [(43,Zd8)] [] 7 8) Try.f40)
theorem Zc9:Za Try.prog 40 ZbH:=Zfk (P:=Try.prog) (n:=7) (k:=8) (l:=[(43,Zd8)]) (ol:=[]) ⟨ZhD,Tv⟩ Try.func40 rfl (by kernel_rfl) Try.call40 trivial
abbrev Zku:List Sh:=[Sh.agg Zae,Sh.one R.bool]
abbrev Zkv:Rs:=Rs.one (Sh.one R.bool)
def ZlZ (x:ITMT) (f:Bool):RT (Bool):=
 let p1:=(decide (x.2.2.2.1>x.2.1.2.2.2))::(decide (x.2.2.2.1<1))::(decide (x.2.1.2.2.2>6))::(decide (x.2.1.2.2.2<3))::[]
 .br (orR p1 (!f&&x.2.2.2.1 !=x.2.1.2.2.2)) (.leaf (false)) (.br (decide (x.2.2.1<0)||decide (x.2.2.2.1<2)&&x.2.2.1 !=0) (.leaf (false)) (.leaf (x.2.2.1==0||Zis x.2.1.1)))
def Zm0 (x:ITMT) (f:Bool):Bool:=(ZlZ x f).val
def Zkw:Entry:=Z1 Zku Zkv (λ_=>none) (λa=>Zm0 a.1 a.2)
theorem ZiL:Za Try.prog 27 Zkw:=
 pureQ 137438954047 [(40,ZbH)] [] Zku Zkv ⟨Zc9,Tv⟩ Try.func27 Try.call27 trivial (t:=λa=>ZlZ a.1 a.2)
abbrev ZdY:List Sh:=[Sh.one (R.sl Za5),Sh.one (R.sl Za5)]
abbrev Zcj:Rs:=Rs.one (Sh.one R.bool)
def Zgt:LS:={n:=26,slots:=[(0,.code (Sh.one (R.sl Za5))),(1,.code (Sh.one (R.sl Za5))),(4,.code (Sh.one R.bool)),(12,.code (Sh.one (R.int i64))),(13,.code (Sh.one (R.int i64)))],boxes:=[],stgs:=[]}
def Z5 (a:List PINT×List PINT×Bool×Int×Int×PUnit):RT (Option (Go1 (List PINT×List PINT×Bool×Int×Int×PUnit))):=
 let x1:= !Zaf a.2.2.2.2.1 (List.length a.1)||Zaf a.2.2.2.2.1 (List.length a.2.1)
 let x2:PINT:=R.get Za5 a.1 a.2.2.2.2.1
 let x3:PINT:=R.get Za5 a.2.1 a.2.2.2.2.1
 let x34:Int×Int×PUnit:=(a.2.2.2.1,a.2.2.2.2.1,PUnit.unit)
 .br (decide (a.2.2.2.2.1<a.2.2.2.1)) (.br (!x1||Zaf a.2.2.2.2.1 (List.length a.1)) (.br (x1) (.br (!(R.eqf Za5 x2 x3 true)) (.leaf (some (Go1.ret (a.1,a.2.1,false,x34)))) (.leaf (some (Go1.cont (a.1,a.2.1,a.2.2.1,a.2.2.2.1,i64.wrap (a.2.2.2.2.1+1),PUnit.unit))))) (.leaf none)) (.leaf none)) (.leaf (some (Go1.brk (a.1,a.2.1,a.2.2.1,x34))))
def Zdq:Ora:=Zja true Zgt Z5 (λa=>1000000000000)
theorem ZeO:ZeL (envX Try.prog [] [] 63 8) (.block 0 (.loop (ZeH Try.f10.body 0))) Zdq:=
 loopP trivial
def Zbd (a:List PINT) (b:List PINT):RT (Option (Bool)):=
 let x1:=runF true Z5 (λa_1=>1000000000000) (a,b,false,iN (List.length a),0,())
 let x2:=getO (false,a,b,false,iN (List.length a),0,()) x1
 .br (iN (List.length a) !=iN (List.length b)) (.leaf (some (false))) (.br (okB x1) (.br x2.1 (.leaf (some x2.2.2.2.1)) (.leaf (some (true)))) (.leaf none))
def Zcz (a:List PINT) (b:List PINT):Bool:=getO Zcj.dflt (Zbd a b).val
def ZbW (a:List PINT) (b:List PINT):Bool:=okB (Zbd a b).val
def Ze5:Entry:=Z1 ZdY Zcj (λa=>some (ZbW a.1 a.2)) (λa=>Zcz a.1 a.2)
theorem Zgs:Za Try.prog 10 Ze5:=
 pureP 63 [] [(0,Zdq)] ZdY Zcj trivial Try.func10 Try.call10 ⟨ZeO,Tv⟩ (t:=λa=>Zbd a.1 a.2)
end
end Go.Proofs.Ytlgmapcjapofoaa
namespace Go.Proofs.Ytlgmapcjapofoaa
open Go Go.S3 Go.Proofs Go.RowKit Go.Shelf
attribute [local go_sem] Oper.semAt_some
noncomputable section
set_option maxRecDepth 100000 in
set_option maxHeartbeats 2000000 in
theorem ZlS (F:Fence) (n:Nat) (h:F.fn 30) (hro:F.round=none) (a lo hi:Int) (w:World):
  CallsIn F n Try.prog 30 #[.int .i64 a,.int .i64 lo,.int .i64 hi] w λe w'=>e=.returned (.int .i64 (gLim a lo hi))/\w'=w:=by
 refine callsIn_of_wp Try.func30 rfl h ?_ hro
 simp only[Try.ntmps30,List.size_toArray,List.length_cons,List.length_nil,Nat.reduceAdd,Nat.reduceSub,Array.replicate_succ,Array.replicate_zero,List.push_toArray,List.append_toArray,List.nil_append,List.cons_append]
 gi_wp2
 all_goals go_ret
 all_goals refine⟨?_,rfl⟩
 all_goals simp[*,gLim,Zh7,RT.val]
 all_goals omega
abbrev Z2 (x:ITMT):Array Value:= #[.int .i64 x.1,.int .i64 x.2.1.1,.int .u16 x.2.1.2.1,.int .u8 x.2.1.2.2.1,.int .i64 x.2.1.2.2.2,.int .i64 x.2.2.1,.int .i64 x.2.2.2.1,.bool x.2.2.2.2.1,.bool x.2.2.2.2.2]
set_option maxRecDepth 100000 in
set_option maxHeartbeats 4000000 in
theorem ZmK (F:Fence) (n:Nat) (h:F.fn 28) (hl:F.fn 30) (hro:F.round=none) (hn:1<=n) (x:ITMT) (w:World):
  CallsIn F n Try.prog 28 #[.agg (Z2 x)] w λe w'=>e=.returned (.tuple #[.int .i64 (gRep x).1,.int .i64 (gRep x).2])/\w'=w.alloc (.cells (Z2 x) 44):=by
 refine callsIn_of_wp Try.func28 rfl h ?_ hro
 simp only[Try.ntmps28,List.size_toArray,List.length_cons,List.length_nil,Nat.reduceAdd,Nat.reduceSub,Array.replicate_succ,Array.replicate_zero,List.push_toArray,List.append_toArray,List.nil_append,List.cons_append]
 gi_wp2_with (gi_at_call 30;refine (ZlS F (n-1) hl hro _ _ _ _).mono ?_;rintro e w' ⟨rfl,rfl⟩)
 all_goals go_ret2
 all_goals refine⟨?_,rfl⟩
 all_goals simp[*,gRep,Zji,RT.val]
def stsC (w m:Nat):List Int:=(List.range m).flatMap λk=>((k+1:Nat):Int)::bif k==1 then List.replicate w 7 else []
theorem Zcu (w m:Nat):stsC w (m+1)=stsC w m++((m+1:Nat):Int)::bif m==1 then List.replicate w 7 else []:=by
 simp[stsC,List.range_succ]
def stsL (x:ITMT):List Int:=bif x.1 !=1 then List.replicate (gRep x).2.toNat (gRep x).1 else stsC (min x.2.2.1 65536).toNat (gLim x.2.2.2.1 1 (gLim x.2.1.2.2.2 3 6)).toNat
theorem Zjy (w:Nat):∀(m k:Nat),k<=m->(stsC w k).length<=(stsC w m).length
 |0,k,h=>by rw[show k=0 by omega];exact Nat.le_refl _
 |m+1,k,h=>by
  by_cases e:k=m+1
  ·rw[e];exact Nat.le_refl _
  ·have:=Zjy w m k (by omega)
   rw[Zcu,List.length_append];omega
def ZcV (W:World) (B:Nat) (x:ITMT):Prop:=W.heap[B]? =some (.cells (Z2 x) 44)
theorem ZcV.cell {W:World} {B:Nat} {x:ITMT} (h:ZcV W B x) (i:Nat) (hi:i<9):W.cell? ⟨B,i,none⟩=some ((Z2 x).getD i undef):=by
 unfold ZcV at h
 simp only[World.cell?,h]
 match i,hi with
 |0,_=>rfl
 |1,_=>rfl
 |2,_=>rfl
 |3,_=>rfl
 |4,_=>rfl
 |5,_=>rfl
 |6,_=>rfl
 |7,_=>rfl
 |8,_=>rfl
 |i+9,hi=>omega
def KpB (B:Nat) (W W':World):Prop:=W'.heap[B]? =W.heap[B]?
set_option maxRecDepth 100000 in
set_option maxHeartbeats 8000000 in
theorem Zma (F:Fence) (n:Nat) (h:F.fn 29) (hr:F.fn 28) (hl:F.fn 30) (hro:F.round=none) (hn:2<=n) (y B N:Nat) (x:ITMT) (J Jx:List Int->World->Prop) (W:World) (hJo:AbidesFrom W.heap.size J)
  (hN:(stsL x).length<=N)
  (hY:∀pre t W1,0<=t->t<=10->J pre W1->pre.length<N->YieldAt F (n-1) Try.prog y #[.int .i64 t] W1 λe W'=>
   (e=.returned (.bool true)/\J (pre++[t]) W'/\KpB B W1 W')\/(e=.returned (.bool false)/\Jx (pre++[t]) W'))
  (hB:ZcV W B x) (h0:J [] W):
  CallsIn F n Try.prog 29 #[.func (.yield y) #[] #[],.pointer (some ⟨B,0,none⟩)] W λe W'=>(∃v,e=.returned v)/\
   ((∃ys,ys=stsL x/\J ys W')\/(∃pre,True/\Jx pre W')):=by
 refine callsIn_of_wp Try.func29 rfl h ?_ hro
 simp only[Try.ntmps29,List.size_toArray,List.length_cons,List.length_nil,Nat.reduceAdd,Nat.reduceSub,Array.replicate_succ,Array.replicate_zero,List.push_toArray,List.append_toArray,List.nil_append,List.cons_append]
 obtain⟨L,hL⟩:∃L,L=stsL x:=⟨_,rfl⟩
 rw[<-hL] at hN|-
 have c0:=hB.cell 0 (by omega)
 have c1:=hB.cell 1 (by omega)
 have c2:=hB.cell 2 (by omega)
 have c3:=hB.cell 3 (by omega)
 have c4:=hB.cell 4 (by omega)
 have c5:=hB.cell 5 (by omega)
 have c6:=hB.cell 6 (by omega)
 have c7:=hB.cell 7 (by omega)
 have c8:=hB.cell 8 (by omega)
 simp[Z2,Array.getD] at c0 c1 c2 c3 c4 c5 c6 c7 c8
 have hn1:1<=n:=by omega
 gi_wp2_with (gi_at_call 28;refine (ZmK F (n-1) hr hl hro (by omega) x _).mono ?_;rintro e w' ⟨rfl,rfl⟩)
 ·have hx:(x.1 !=1)=true:=by assumption
  have eL:stsL x=List.replicate (gRep x).2.toNat (gRep x).1:=by unfold stsL;rw[hx];rfl
  rw[eL] at hL
  rw[hL,List.length_replicate] at hN
  have hJ1:J [] (W.alloc (.cells (Z2 x) 44)):=hJo _ _ _ none h0 (World.grownBy_alloc W _ none) (λr e=>by cases e)
  clear hJo h0 hB c0 c1 c2 c3 c4 c5 c6 c7 c8 eL
  have htm:0<=(gRep x).2/\(gRep x).2<=65536:=by
   unfold gRep Zji
   simp only[gLim,Zh7,RT.val]
   cases x.1==2<;>cases x.1==3<;>cases x.1==4<;>simp[RT.val]<;>omega
  obtain⟨ht0,ht1⟩:=htm
  have hst:0<=(gRep x).1/\(gRep x).1<=10:=by
   unfold gRep Zji
   cases x.1==2<;>cases x.1==3<;>cases x.1==4<;>simp[RT.val]
  generalize (gRep x).1=st at*
  generalize (gRep x).2=tm at*
  subst hL
  gi_wp2
  gi_loopw [17] (λi wr=>∃k:Nat,k<=tm.toNat/\i=.int .i64 (k:Int)/\J (List.replicate k st) wr) (λi _=>tm.toNat-(intOf i).toNat)
  case atStart=>exact⟨0,Nat.zero_le _,rfl,hJ1⟩
  case round=>
   obtain⟨k,hk,rfl,hJs⟩:=hrel
   by_cases hlt:(k:Int)<tm
   ·obtain⟨fn,tmps,assign,body,hy,hR⟩:=hY _ st wr hst.1 hst.2 hJs (by rw[List.length_replicate];omega)
    have hb:(k:Int)+1<=65536:=by omega
    have hb0:(0:Int)<=k:=by omega
    gi_wp2
    ·refine hR.mono ?_
     rintro e W3 (⟨rfl,hJ3,hk3⟩|⟨rfl,hJx3⟩)
     ·gi_wp2
      go_roundw
      case rel=>exact⟨k+1,by omega,rfl,by rw[List.replicate_succ'];exact hJ3⟩
      case measure=>simp[intOf];omega
     ·gi_wp2
      refine bodyPost_ret (results_none rfl _ _ _) rfl ?_
      exact⟨⟨_,rfl⟩,.inr ⟨_,trivial,hJx3⟩⟩
   ·gi_wp2
    refine bodyPost_ret (results_none rfl _ _ _) rfl ?_
    have e5:tm.toNat=k:=by omega
    rw[<-e5] at hJs
    exact⟨⟨_,rfl⟩,.inl hJs⟩
 ·refine wpIn_mono (Q:=λe a' w'=>e=.normal/\a'={tmps:= #[.func (.yield y) #[] #[],.pointer (some ⟨B,0,none⟩),undef,undef,undef,.int .i64 (gLim x.2.2.2.1 1 (gLim x.2.1.2.2.2 3 6)),undef,undef,.pointer (some ⟨B,0,none⟩),.int .i64 x.1,.bool false,undef,undef,undef,undef,undef,undef,undef,undef,undef,undef,undef,undef,undef,.pointer (some ⟨B,6,none⟩),.int .i64 x.2.2.2.1,.pointer (some ⟨B,1,none⟩),.pointer (some ⟨B,4,none⟩),.int .i64 x.2.1.2.2.2,.int .i64 (gLim x.2.1.2.2.2 3 6),.int .i64 (gLim x.2.2.2.1 1 (gLim x.2.1.2.2.2 3 6)),undef,undef,undef,undef,undef,undef,undef,undef,undef,undef,undef,undef,undef,undef,undef,undef,undef,undef,undef,undef,undef,undef,undef],defers:=[]}/\w'=W.drew) ?reg ?_
  case reg=>
   gi_region_with (gi_at_call 30;refine (ZlS F (n-1) hl hro _ _ _ _).mono ?_;rintro e w' ⟨rfl,rfl⟩)
   all_goals exact⟨rfl,rfl,rfl⟩
  rintro e a' w' ⟨rfl,rfl,rfl⟩
  have hx:(x.1 !=1)=false:=by assumption
  have eL:stsL x=stsC (min x.2.2.1 65536).toNat (gLim x.2.2.2.1 1 (gLim x.2.1.2.2.2 3 6)).toNat:=by unfold stsL;rw[hx];rfl
  have hm1:1<=gLim x.2.2.2.1 1 (gLim x.2.1.2.2.2 3 6)/\gLim x.2.2.2.1 1 (gLim x.2.1.2.2.2 3 6)<=6:=by simp only[gLim,Zh7,RT.val];omega
  dsimp only
  rw[eL] at hL
  have hJ1:J [] W.drew:=hJo _ _ _ none h0 ⟨rfl,rfl,rfl,Nat.le_refl _,λ_ _ _=>rfl⟩ (λr e=>by cases e)
  have hB1:ZcV W.drew B x:=hB
  clear hJo h0 hB c0 c1 c2 c3 c4 c5 c6 c7 c8 eL
  generalize gLim x.2.2.2.1 1 (gLim x.2.1.2.2.2 3 6)=g at*
  obtain⟨m,rfl⟩:∃m:Nat,g=(m:Int):=⟨g.toNat,by omega⟩
  generalize W.drew=W0 at*
  rw[Int.toNat_natCast] at hL
  generalize hwn:(min x.2.2.1 65536).toNat=wn at*
  subst hL
  gi_wp2
  gi_loopw [6] (λi wr=>∃k:Nat,k<=m/\i=.int .i64 ((k:Int)+1)/\J (stsC wn k) wr/\ZcV wr B x) (λi _=>m+1-(intOf i).toNat)
  case atStart=>exact⟨0,Nat.zero_le _,rfl,by simpa [stsC] using hJ1,hB1⟩
  case round=>
   obtain⟨k,hk,rfl,hJs,hBr⟩:=hrel
   by_cases hlt:k<m
   ·have c5:=hBr.cell 5 (by omega)
    simp[Z2,Array.getD] at c5
    have hlen:∀j:Nat,j<=(bif k==1 then wn else 0)->(stsC wn k++((k+1:Nat):Int)::List.replicate j 7).length<=(stsC wn m).length:=by
     intro j hj
     refine Nat.le_trans ?_ (Zjy wn m (k+1) hlt)
     rw[Zcu]
     simp only[List.length_append,List.length_cons,List.length_replicate]
     cases hk1:k==1<;>rw[hk1] at hj<;>simp at hj|- <;>omega
    obtain⟨fn,tmps,assign,body,hy,hR⟩:=hY _ ((k:Int)+1) wr (by omega) (by omega) hJs (by have:=hlen 0 (Nat.zero_le _);simp at this;omega)
    have hb:(k:Int)+1<=6:=by omega
    have hb0:(0:Int)<=k:=by omega
    gi_wp2
    refine hR.mono ?_
    rintro e W3 (⟨rfl,hJ3,hk3⟩|⟨rfl,hJx3⟩)
    ·gi_wp2
     gi_loopw [7] (λi wr=>∃j:Nat,j<=(bif k==1 then wn else 0)/\i=.int .i64 (j:Int)/\J (stsC wn k++((k+1:Nat):Int)::List.replicate j 7) wr/\ZcV wr B x) (λi _=>wn+1-(intOf i).toNat)
     case atStart=>exact⟨0,Nat.zero_le _,rfl,by simpa using hJ3,hk3.trans hBr⟩
     case round=>
      obtain⟨j,hj,rfl,hJs,hBr⟩:=hrel
      have c5:=hBr.cell 5 (by omega)
      simp[Z2,Array.getD] at c5
      have hwn0:wn<=65536:=by omega
      have hj65:(j:Int)<=65536:=by cases hq:k==1<;>rw[hq] at hj<;>simp at hj<;>omega
      have hj0:(0:Int)<=j:=by omega
      by_cases hc:k=1/\j<wn
      ·obtain⟨fn,tmps,assign,body,hy,hR⟩:=hY _ 7 wr (by omega) (by omega) hJs (by have:=hlen (j+1) (by simp[hc.1];omega);simp at this|-;omega)
       have hnext:∀W,J ((stsC wn k++((k+1:Nat):Int)::List.replicate j 7)++[7]) W->J (stsC wn k++((k+1:Nat):Int)::List.replicate (j+1) 7) W:=by
        intro W h
        rw[List.replicate_succ'];simpa using h
       have hj1:j+1<=(bif k==1 then wn else 0):=by simp[hc.1];omega
       gi_wp2
       all_goals first
        |(exfalso;omega)
        |skip
       all_goals
        refine hR.mono ?_
        rintro e W5 (⟨rfl,hJ5,hk5⟩|⟨rfl,hJx5⟩)
       all_goals gi_wp2
       all_goals first
        |(refine bodyPost_ret (results_none rfl _ _ _) rfl ?_
          exact⟨⟨_,rfl⟩,.inr ⟨_,trivial,hJx5⟩⟩)
        |(go_roundw
          case rel=>
           simp only[show (k:Int)+1=2 by omega]
           exact⟨_,_,_,_,_,_,_,_,_,_,_,_,_,_,_,⟨j+1,hj1,rfl,hnext _ hJ5,hk5.trans hBr⟩,rfl⟩
          case measure=>simp[intOf];omega)
      ·gi_wp2
       all_goals first
        |(exfalso;omega)
        |skip
       all_goals
        have hjj:j=bif k==1 then wn else 0:=by
         by_cases hk1:k=1
         ·have:¬j<wn:=λh=>hc ⟨hk1,h⟩
          subst hk1
          simp at hj|-;omega
         ·have:(k==1)=false:=by simpa using hk1
          rw[this] at hj|-
          exact Nat.le_zero.1 hj
        have hfin:J (stsC wn (k+1)) wr:=by
         rw[Zcu]
         rw[hjj] at hJs
         cases hk1:k==1<;>rw[hk1] at hJs<;>simpa using hJs
        refine⟨⟨k+1,by omega,by first|rfl|(congr 1;omega),hfin,hBr⟩,?_⟩
        simp[intOf];omega
    ·gi_wp2
     refine bodyPost_ret (results_none rfl _ _ _) rfl ?_
     exact⟨⟨_,rfl⟩,.inr ⟨_,trivial,hJx3⟩⟩
   ·have hb:(k:Int)<=6:=by omega
    have hb0:(0:Int)<=k:=by omega
    gi_wp2
    refine bodyPost_end (results_none rfl _ _ _) rfl ?_
    exact⟨⟨_,rfl⟩,.inl ⟨_,rfl,by rw[show m=k by omega];exact hJs⟩⟩
set_option maxRecDepth 100000 in
set_option maxHeartbeats 2000000 in
theorem ZmG (F:Fence) (n:Nat) (h:F.fn 23) (hro:F.round=none) (x:ITMT) (w:World):
  CallsIn F n Try.prog 23 #[.agg (Z2 x)] w λe w'=>e=.returned (.func (.func 29) #[] #[.pointer (some ⟨w.heap.size,0,none⟩)])/\w'=w.alloc (.cells (Z2 x) 44):=by
 refine callsIn_of_wp Try.func23 rfl h ?_ hro
 simp only[Try.ntmps23,List.size_toArray,List.length_cons,List.length_nil,Nat.reduceAdd,Nat.reduceSub,Array.replicate_succ,Array.replicate_zero,List.push_toArray,List.append_toArray,List.nil_append,List.cons_append]
 gi_wp2
 go_ret
 exact⟨rfl,rfl⟩
abbrev StT:={t:Int//0<=t/\t<=10}
abbrev stEnc (t:StT):Array Value:= #[.int .i64 t.1]
theorem Zjx (F:Fence) (n:Nat) (h:F.fn 29) (hr:F.fn 28) (hl:F.fn 30) (hro:F.round=none) (hn:2<=n) (B:Nat) (x:ITMT) (w:World) (hBs:B<w.heap.size) (hB:ZcV w B x):
  SeqStopsK F n Try.prog 29 #[.pointer (some ⟨B,0,none⟩)] stEnc (KpB B) (λys=>ys.map (·.1)=stsL x) (λ_=>True) (stsL x).length w:=λy J Jx W hW hJ _ hY h0=>by
 refine (Zma F n h hr hl hro hn y B (stsL x).length x (λl W=>∃l':List StT,l'.map (·.1)=l/\J l' W) (λl W=>∃l':List StT,Jx l' W) W ?_ (Nat.le_refl _) ?_ ?_ ⟨[],rfl,h0⟩).mono ?_
 ·rintro l A C row ⟨l',e,hl'⟩ hg hr'
  exact⟨l',e,hJ l' A C row hl' hg hr'⟩
 ·rintro pre t W1 t0 t1 ⟨l',e,hl'⟩ hlen
  have hlen':l'.length<(stsL x).length:=by rw[<-e,List.length_map] at hlen;exact hlen
  obtain⟨fn,tmps,assign,body,hy,hR⟩:=hY l' ⟨t,t0,t1⟩ W1 hl' hlen'
  refine⟨fn,tmps,assign,body,hy,hR.mono ?_⟩
  rintro e' W' (⟨e1,e2,e3⟩|⟨e1,e2⟩)
  ·exact .inl ⟨e1,⟨l'++[⟨t,t0,t1⟩],by simp[e],e2⟩,e3⟩
  ·exact .inr ⟨e1,_,e2⟩
 ·exact (hW.block B hBs).trans hB
 ·rintro e W' ⟨hv,(⟨ys,e1,l',e2,e3⟩|⟨pre,_,l',e3⟩)⟩
  ·exact⟨hv,.inl ⟨l',e2.trans e1,e3⟩⟩
  ·exact⟨hv,.inr ⟨l',trivial,e3⟩⟩
end
end Go.Proofs.Ytlgmapcjapofoaa
