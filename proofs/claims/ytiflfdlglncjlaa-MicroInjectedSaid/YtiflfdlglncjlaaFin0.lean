/-
  Contracts of functions; each found by the symbolic executor and checked by the kernel. Conditions: none.
-/
import Derived.Test.YtiflfdlglncjlaaS3D
import Derived.Test.YtiflfdlglncjlaaProg
import Derived.Test.YtiflfdlglncjlaaMicroL
set_option linter.unusedSimpArgs false
open Go Go.S3 Go.Proofs
set_option linter.unusedVariables false
set_option maxRecDepth 100000
namespace Go.Proofs.Ytiflfdlglncjlaa
noncomputable section
noncomputable def imicro_newPlan_pFinE (k : Int) : Entry := .tree (evFunc (envX Try.prog [(35, pDecKE k), (65, qAtE)] [] 255 8) Try.f48)

theorem imicro_newPlan_pFin_ok (k : Int) : EntryOk Try.prog 48 (imicro_newPlan_pFinE k) := inl_ok (P := Try.prog) (n := 255) (k := 8) (l := [(35, pDecKE k), (65, qAtE)]) (ol := []) ⟨(pDecK_ok k), qAt_ok, trivial⟩ Try.func48 rfl (by kernel_rfl) Try.call48 trivial

noncomputable def i__micro_plan__loadE : Entry := .tree (evFunc (envX Try.prog [(65, qAtE), (68, qRegE), (101, qJoinE), (107, pSet1E), (108, pSetPair1E)] [] 2597417327555236063515274458956831 8) Try.f76)

theorem i__micro_plan__load_ok : EntryOk Try.prog 76 i__micro_plan__loadE := inl_ok (P := Try.prog) (n := 2597417327555236063515274458956831) (k := 8) (l := [(65, qAtE), (68, qRegE), (101, qJoinE), (107, pSet1E), (108, pSetPair1E)]) (ol := []) ⟨qAt_ok, qReg_ok, qJoin_ok, pSet1_ok, pSetPair1_ok, trivial⟩ Try.func76 rfl (by kernel_rfl) Try.call76 trivial

noncomputable def i__micro_plan__computeE : Entry := .tree (evFunc (envX Try.prog [(65, qAtE), (67, qPairE), (68, qRegE), (99, pInr1E), (100, pDcr1E), (107, pSet1E), (108, pSetPair1E), (109, pDo1E), (110, qOperandE), (111, pInx1E), (112, pDcx1E), (113, pDad1E), (114, pDaa1E), (115, pRot1E)] [] 7069140681974987581262622498806463579024171163532525608263727578473562367 8) Try.f77)

theorem i__micro_plan__compute_ok : EntryOk Try.prog 77 i__micro_plan__computeE := inl_ok (P := Try.prog) (n := 7069140681974987581262622498806463579024171163532525608263727578473562367) (k := 8) (l := [(65, qAtE), (67, qPairE), (68, qRegE), (99, pInr1E), (100, pDcr1E), (107, pSet1E), (108, pSetPair1E), (109, pDo1E), (110, qOperandE), (111, pInx1E), (112, pDcx1E), (113, pDad1E), (114, pDaa1E), (115, pRot1E)]) (ol := []) ⟨qAt_ok, qPair_ok, qReg_ok, pInr1_ok, pDcr1_ok, pSet1_ok, pSetPair1_ok, pDo1_ok, qOperand_ok, pInx1_ok, pDcx1_ok, pDad1_ok, pDaa1_ok, pRot1_ok, trivial⟩ Try.func77 rfl (by kernel_rfl) Try.call77 trivial

noncomputable def i__micro_plan__controlE : Entry := .tree (evFunc (envX Try.prog [(67, qPairE), (101, qJoinE), (103, qTakenE), (108, pSetPair1E), (116, pSetPSW1E)] [] 1300629477622019213679053869679119 8) Try.f78)

theorem i__micro_plan__control_ok : EntryOk Try.prog 78 i__micro_plan__controlE := inl_ok (P := Try.prog) (n := 1300629477622019213679053869679119) (k := 8) (l := [(67, qPairE), (101, qJoinE), (103, qTakenE), (108, pSetPair1E), (116, pSetPSW1E)]) (ol := []) ⟨qPair_ok, qJoin_ok, qTaken_ok, pSetPair1_ok, pSetPSW1_ok, trivial⟩ Try.func78 rfl (by kernel_rfl) Try.call78 trivial

noncomputable def i__micro_plan__laterE : Entry := .tree (evFunc (envX Try.prog [(65, qAtE), (67, qPairE), (108, pSetPair1E), (118, pDsub1E), (119, pArhl1E), (120, pRdel1E)] [] 19808249554387950831669350527 8) Try.f81)

theorem i__micro_plan__later_ok : EntryOk Try.prog 81 i__micro_plan__laterE := inl_ok (P := Try.prog) (n := 19808249554387950831669350527) (k := 8) (l := [(65, qAtE), (67, qPairE), (108, pSetPair1E), (118, pDsub1E), (119, pArhl1E), (120, pRdel1E)]) (ol := []) ⟨qAt_ok, qPair_ok, pSetPair1_ok, pDsub1_ok, pArhl1_ok, pRdel1_ok, trivial⟩ Try.func81 rfl (by kernel_rfl) Try.call81 trivial

noncomputable def i__micro_plan__finishE : Entry := .tree (evFunc (envX Try.prog [(75, qBehindE), (76, i__micro_plan__loadE), (77, i__micro_plan__computeE), (78, i__micro_plan__controlE), (79, pRim1E), (80, pSim1E), (81, i__micro_plan__laterE)] [] 1299342484808491477133836286951679 8) Try.f54)

theorem i__micro_plan__finish_ok : EntryOk Try.prog 54 i__micro_plan__finishE := inl_ok (P := Try.prog) (n := 1299342484808491477133836286951679) (k := 8) (l := [(75, qBehindE), (76, i__micro_plan__loadE), (77, i__micro_plan__computeE), (78, i__micro_plan__controlE), (79, pRim1E), (80, pSim1E), (81, i__micro_plan__laterE)]) (ol := []) ⟨qBehind_ok, i__micro_plan__load_ok, i__micro_plan__compute_ok, i__micro_plan__control_ok, pRim1_ok, pSim1_ok, i__micro_plan__later_ok, trivial⟩ Try.func54 rfl (by kernel_rfl) Try.call54 trivial

abbrev pFinTs : List Sh := [Sh.agg (R.pair (R.int IntKind.i64) (R.pair (R.pair (R.int IntKind.u8) (R.pair (R.int IntKind.u8) (R.pair (R.int IntKind.u8) (R.pair (R.int IntKind.u8) (R.pair (R.int IntKind.u8) (R.pair (R.int IntKind.u8) (R.pair (R.int IntKind.u8) (R.pair (R.pair R.bool (R.pair R.bool (R.pair R.bool (R.pair R.bool (R.pair R.bool (R.pair R.bool R.bool)))))) (R.pair (R.int IntKind.u16) (R.int IntKind.u16)))))))))) (R.pair R.bool (R.pair R.bool (R.pair R.bool (R.pair (R.int IntKind.u8) (R.pair R.bool (R.pair R.bool (R.pair R.bool (R.pair R.bool (R.pair R.bool (R.pair R.bool R.bool)))))))))))), Sh.one (R.int IntKind.i64), Sh.one (R.sl (R.int IntKind.u8)), Sh.agg (R.pair R.bool (R.pair R.bool (R.pair R.bool (R.pair R.bool (R.pair R.bool (R.pair R.bool (R.pair R.bool (R.pair R.bool R.bool))))))))]

abbrev pFinRs : Rs := Rs.one (Sh.agg (R.pair (R.int IntKind.i64) (R.pair (R.pair (R.int IntKind.u8) (R.pair (R.int IntKind.u8) (R.pair (R.int IntKind.u8) (R.pair (R.int IntKind.u8) (R.pair (R.int IntKind.u8) (R.pair (R.int IntKind.u8) (R.pair (R.int IntKind.u8) (R.pair (R.pair R.bool (R.pair R.bool (R.pair R.bool (R.pair R.bool (R.pair R.bool (R.pair R.bool R.bool)))))) (R.pair (R.int IntKind.u16) (R.int IntKind.u16)))))))))) (R.pair R.bool (R.pair R.bool (R.pair R.bool (R.pair (R.int IntKind.u8) (R.pair R.bool (R.pair R.bool (R.pair R.bool (R.pair R.bool (R.pair R.bool (R.pair R.bool R.bool)))))))))))))

noncomputable def pFinL (k : Int) : List (FuncId × Entry) := [(48, imicro_newPlan_pFinE k), (49, pInternalE), (53, pVector1E), (54, i__micro_plan__finishE)]

theorem pFinL_ok (k : Int) : AllOk Try.prog (pFinL k) := ⟨(imicro_newPlan_pFin_ok k), pInternal_ok, pVector1_ok, i__micro_plan__finish_ok, trivial⟩
end
end Go.Proofs.Ytiflfdlglncjlaa
