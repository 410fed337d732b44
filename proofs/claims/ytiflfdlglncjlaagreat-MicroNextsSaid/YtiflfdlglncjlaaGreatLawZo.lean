/-
  Contracts of functions; each found by the symbolic executor and checked by the kernel. Conditions: none.
-/
import Derived.Test.YtiflfdlglncjlaaGreatS3D
import Derived.Test.YtiflfdlglncjlaaGreatProg
import Derived.Test.YtiflfdlglncjlaaGreatMakeOk
set_option linter.unusedSimpArgs false
open Go Go.S3 Go.Proofs
set_option linter.unusedVariables false
set_option maxRecDepth 100000
namespace Go.Proofs.YtiflfdlglncjlaaGreat
noncomputable section
noncomputable def ztstatemake_FromE : Entry := .tree (evFunc (envX Tryz.prog [] [] 7 8) Tryz.f20)


theorem ztstatemake_From_ok : EntryOk Tryz.prog 20 ztstatemake_FromE := inl_ok (P := Tryz.prog) (n := 7) (k := 8) (l := []) (ol := []) trivial Tryz.func20 rfl (by kernel_rfl) Tryz.call20 trivial


abbrev kOperateTs : List Sh := [Sh.one (R.sl (R.int IntKind.i64)), Sh.one (R.int IntKind.u8)]

abbrev kOperateRs : Rs := Rs.tup [Sh.agg (R.pair (R.int IntKind.i64) (R.pair (R.pair (R.int IntKind.u8) (R.pair (R.int IntKind.u8) (R.pair (R.int IntKind.u8) (R.pair (R.int IntKind.u8) (R.pair (R.int IntKind.u8) (R.pair (R.int IntKind.u8) (R.pair (R.int IntKind.u8) (R.pair (R.pair R.bool (R.pair R.bool (R.pair R.bool (R.pair R.bool (R.pair R.bool (R.pair R.bool R.bool)))))) (R.pair (R.int IntKind.u16) (R.int IntKind.u16)))))))))) (R.pair R.bool (R.pair R.bool (R.pair R.bool (R.pair (R.int IntKind.u8) (R.pair R.bool (R.pair R.bool (R.pair R.bool (R.pair R.bool (R.pair R.bool (R.pair R.bool R.bool)))))))))))), Sh.one (R.int IntKind.i64), Sh.one (R.sl (R.int IntKind.u8))]

def kOperateL0c : LS := { n := 40, slots := [(4, .fix (A.loc 0 0)), (7, .fix (A.loc 1 0)), (8, .fix (A.loc 2 0)), (9, .code (Sh.one (R.int IntKind.i64))), (10, .tip 1), (11, .code (Sh.one (R.int IntKind.i64)))], boxes := [[.many (R.pair (R.int IntKind.i64) (R.pair (R.pair (R.int IntKind.u8) (R.pair (R.int IntKind.u8) (R.pair (R.int IntKind.u8) (R.pair (R.int IntKind.u8) (R.pair (R.int IntKind.u8) (R.pair (R.int IntKind.u8) (R.pair (R.int IntKind.u8) (R.pair (R.pair R.bool (R.pair R.bool (R.pair R.bool (R.pair R.bool (R.pair R.bool (R.pair R.bool R.bool)))))) (R.pair (R.int IntKind.u16) (R.int IntKind.u16)))))))))) (R.pair R.bool (R.pair R.bool (R.pair R.bool (R.pair (R.int IntKind.u8) (R.pair R.bool (R.pair R.bool (R.pair R.bool (R.pair R.bool (R.pair R.bool (R.pair R.bool R.bool))))))))))))], [.code (.sl (R.int IntKind.i64)), .code (.int IntKind.i64)], [.many (R.pair (R.int IntKind.i64) (R.pair (R.pair (R.int IntKind.u8) (R.pair (R.int IntKind.u8) (R.pair (R.int IntKind.u8) (R.pair (R.int IntKind.u8) (R.pair (R.int IntKind.u8) (R.pair (R.int IntKind.u8) (R.pair (R.int IntKind.u8) (R.pair (R.pair R.bool (R.pair R.bool (R.pair R.bool (R.pair R.bool (R.pair R.bool (R.pair R.bool R.bool)))))) (R.pair (R.int IntKind.u16) (R.int IntKind.u16)))))))))) (R.pair R.bool (R.pair R.bool (R.pair R.bool (R.pair (R.int IntKind.u8) (R.pair R.bool (R.pair R.bool (R.pair R.bool (R.pair R.bool (R.pair R.bool (R.pair R.bool R.bool))))))))))))]], stgs := [⟨R.int IntKind.i64, 3, true⟩, ⟨R.int IntKind.u8, 5, true⟩] }


noncomputable def kOperateL0T (a : Int × Int × TC × List Int × Int × TC × List Int × List Int × PUnit) : RT (Option (Go1 (Int × Int × TC × List Int × Int × TC × List Int × List Int × PUnit))) :=
  let x1 : List Int := a.2.2.2.2.2.2.2.1 ++ [(nByte (a.2.2.2.1, a.2.2.2.2.1)).1]
  let x2 : Bool := !nByteC (a.2.2.2.1, a.2.2.2.2.1) || Nat.ble (List.length x1) most
  let x3 : List Int × Int := (nByte (a.2.2.2.1, a.2.2.2.2.1)).2
  .br (decide (a.2.1 > 0))
  (.br (!x2 || nByteC (a.2.2.2.1, a.2.2.2.2.1))
   (.br (x2)
    (.leaf (some (Go1.cont (a.1, IntKind.i64.wrap (a.2.1 - 1), a.2.2.1, x3.1, x3.2, a.2.2.2.2.2.1, a.2.2.2.2.2.2.1, x1, PUnit.unit))))
    (.leaf none))
   (.leaf none))
  (.leaf (some (Go1.brk (a.1, a.2.1, a.2.2.1, a.2.2.2.1, a.2.2.2.2.1, a.2.2.2.2.2.1, a.2.2.2.2.2.2.1, a.2.2.2.2.2.2.2.1, PUnit.unit))))

noncomputable def kOperateL0O : Ora := loopE false kOperateL0c kOperateL0T (fun a => 8)

theorem kOperateL0_ok : OraOk (envX Tryz.prog [(20, ztstatemake_FromE), (21, nCPUE), (22, nNextE), (23, nByteE)] [] 4095 108) (.block 0 (.loop (bodyIn Tryz.f8.body 0))) kOperateL0O :=
  loop_part (envX_ok (l := [(20, ztstatemake_FromE), (21, nCPUE), (22, nNextE), (23, nByteE)]) ⟨ztstatemake_From_ok, nCPU_ok, nNext_ok, nByte_ok, trivial⟩ [] 4095 108) (loopsOk_bare (by kernel_rfl)) (fun a => by kernel_rfl)

noncomputable def kOperateT (n : List Int) (op : Int) : RT (Option (TC × Int × List Int)) :=
  let x1 : List Int := [0, 0, 0, 5, IntKind.i64.wrap (1 + (nNext (nCPU (n, 0)).2 4).1)]
  let x2 : List Int × Int := (nNext (nNext (nNext (nCPU (n, 0)).2 4).2 5).2 6).2
  let x3 : Int × Int × TC × List Int × Int × TC × List Int × List Int × PUnit := (R.get (R.int IntKind.i64) x1 (nNext (nNext (nCPU (n, 0)).2 4).2 5).1, (nNext (nNext (nNext (nCPU (n, 0)).2 4).2 5).2 6).1, (0, (0, 0, 0, 0, 0, 0, 0, (false, false, false, false, false, false, false), 0, 0), false, false, false, 0, false, false, false, false, false, false, false), x2.1, x2.2, (nCPU (n, 0)).1, x1, [op], ())
  let x4 : Option (Bool × Int × Int × TC × List Int × Int × TC × List Int × List Int × PUnit) := runF false kOperateL0T (fun a => 8) x3
  let x5 : Int × Int × TC × List Int × Int × TC × List Int × List Int × PUnit := (getO (false, x3) x4).2
  let x6 : TC × List Int × List Int × PUnit := x5.2.2.2.2.2
  .br (nCPUC (n, 0))
  (.br (!nNextC (nCPU (n, 0)).2 4 || (!nNextC (nNext (nCPU (n, 0)).2 4).2 5 || inRng (nNext (nNext (nCPU (n, 0)).2 4).2 5).1 (List.length x1)))
   (.br (!nNextC (nCPU (n, 0)).2 4 || nNextC (nNext (nCPU (n, 0)).2 4).2 5)
    (.br (nNextC (nCPU (n, 0)).2 4)
     (.br (nNextC (nNext (nNext (nCPU (n, 0)).2 4).2 5).2 6)
      (.br (okB x4)
       (.leaf (some ((x6.1, x5.1, x6.2.2.1))))
       (.leaf none))
      (.leaf none))
     (.leaf none))
    (.leaf none))
   (.leaf none))
  (.leaf none)

noncomputable def kOperate (n : List Int) (op : Int) : TC × Int × List Int := getO kOperateRs.dflt (kOperateT n op).val

noncomputable def kOperateC (n : List Int) (op : Int) : Bool := okB (kOperateT n op).val

noncomputable def kOperateE : Entry := pureE kOperateTs kOperateRs (fun a => some (kOperateC a.1 a.2)) (fun a => kOperate a.1 a.2)

theorem kOperate_ok : EntryOk Tryz.prog 8 kOperateE :=
  pure_part (P := Tryz.prog) (n := 4095) (k := 108) (l := [(20, ztstatemake_FromE), (21, nCPUE), (22, nNextE), (23, nByteE)]) (ol := [(0, kOperateL0O)]) ⟨ztstatemake_From_ok, nCPU_ok, nNext_ok, nByte_ok, trivial⟩ Tryz.func8 rfl (by kernel_rfl) Tryz.call8 ⟨kOperateL0_ok, trivial⟩ (ts := kOperateTs) (rs := kOperateRs) (t := fun a => kOperateT a.1 a.2) (fun a => by kernel_rfl)

end
end Go.Proofs.YtiflfdlglncjlaaGreat
