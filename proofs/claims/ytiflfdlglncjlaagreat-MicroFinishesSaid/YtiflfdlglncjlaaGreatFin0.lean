/-
  Contracts of functions; each found by the symbolic executor and checked by the kernel. Conditions: none.
-/
import Derived.Test.YtiflfdlglncjlaaGreatS3D
import Derived.Test.YtiflfdlglncjlaaGreatProg
import Derived.Test.YtiflfdlglncjlaaGreatMicroL
set_option linter.unusedSimpArgs false
open Go Go.S3 Go.Proofs
set_option linter.unusedVariables false
set_option maxRecDepth 100000
namespace Go.Proofs.YtiflfdlglncjlaaGreat
noncomputable section
noncomputable def imicro_newPlan_pFinE (k : Int) : Entry := .tree (evFunc (envX Tryz.prog [(35, pDecKE k), (36, qAtE)] [] 255 8) Tryz.f12)

theorem imicro_newPlan_pFin_ok (k : Int) : EntryOk Tryz.prog 12 (imicro_newPlan_pFinE k) := inl_ok (P := Tryz.prog) (n := 255) (k := 8) (l := [(35, pDecKE k), (36, qAtE)]) (ol := []) ⟨(pDecK_ok k), qAt_ok, trivial⟩ Tryz.func12 rfl (by kernel_rfl) Tryz.call12 trivial

noncomputable def i__micro_plan__loadE : Entry := .tree (evFunc (envX Tryz.prog [(36, qAtE), (39, qRegE), (93, qJoinE), (105, pSet1E), (106, pSetPair1E)] [] 2597417327555236063515274458956831 8) Tryz.f66)

theorem i__micro_plan__load_ok : EntryOk Tryz.prog 66 i__micro_plan__loadE := inl_ok (P := Tryz.prog) (n := 2597417327555236063515274458956831) (k := 8) (l := [(36, qAtE), (39, qRegE), (93, qJoinE), (105, pSet1E), (106, pSetPair1E)]) (ol := []) ⟨qAt_ok, qReg_ok, qJoin_ok, pSet1_ok, pSetPair1_ok, trivial⟩ Tryz.func66 rfl (by kernel_rfl) Tryz.call66 trivial

noncomputable def i__micro_plan__computeE : Entry := .tree (evFunc (envX Tryz.prog [(36, qAtE), (38, qPairE), (39, qRegE), (91, pInr1E), (92, pDcr1E), (105, pSet1E), (106, pSetPair1E), (107, pDo1E), (108, qOperandE), (109, pInx1E), (110, pDcx1E), (111, pDad1E), (112, pDaa1E), (113, pRot1E)] [] 7069140681974987581262622498806463579024171163532525608263727578473562367 8) Tryz.f67)

theorem i__micro_plan__compute_ok : EntryOk Tryz.prog 67 i__micro_plan__computeE := inl_ok (P := Tryz.prog) (n := 7069140681974987581262622498806463579024171163532525608263727578473562367) (k := 8) (l := [(36, qAtE), (38, qPairE), (39, qRegE), (91, pInr1E), (92, pDcr1E), (105, pSet1E), (106, pSetPair1E), (107, pDo1E), (108, qOperandE), (109, pInx1E), (110, pDcx1E), (111, pDad1E), (112, pDaa1E), (113, pRot1E)]) (ol := []) ⟨qAt_ok, qPair_ok, qReg_ok, pInr1_ok, pDcr1_ok, pSet1_ok, pSetPair1_ok, pDo1_ok, qOperand_ok, pInx1_ok, pDcx1_ok, pDad1_ok, pDaa1_ok, pRot1_ok, trivial⟩ Tryz.func67 rfl (by kernel_rfl) Tryz.call67 trivial

noncomputable def i__micro_plan__controlE : Entry := .tree (evFunc (envX Tryz.prog [(38, qPairE), (93, qJoinE), (95, qTakenE), (106, pSetPair1E), (114, pSetPSW1E)] [] 1300629477622019213679053869679119 8) Tryz.f68)

theorem i__micro_plan__control_ok : EntryOk Tryz.prog 68 i__micro_plan__controlE := inl_ok (P := Tryz.prog) (n := 1300629477622019213679053869679119) (k := 8) (l := [(38, qPairE), (93, qJoinE), (95, qTakenE), (106, pSetPair1E), (114, pSetPSW1E)]) (ol := []) ⟨qPair_ok, qJoin_ok, qTaken_ok, pSetPair1_ok, pSetPSW1_ok, trivial⟩ Tryz.func68 rfl (by kernel_rfl) Tryz.call68 trivial

noncomputable def i__micro_plan__laterE : Entry := .tree (evFunc (envX Tryz.prog [(36, qAtE), (38, qPairE), (106, pSetPair1E), (116, pDsub1E), (117, pArhl1E), (118, pRdel1E)] [] 19808249554387950831669350527 8) Tryz.f71)

theorem i__micro_plan__later_ok : EntryOk Tryz.prog 71 i__micro_plan__laterE := inl_ok (P := Tryz.prog) (n := 19808249554387950831669350527) (k := 8) (l := [(36, qAtE), (38, qPairE), (106, pSetPair1E), (116, pDsub1E), (117, pArhl1E), (118, pRdel1E)]) (ol := []) ⟨qAt_ok, qPair_ok, pSetPair1_ok, pDsub1_ok, pArhl1_ok, pRdel1_ok, trivial⟩ Tryz.func71 rfl (by kernel_rfl) Tryz.call71 trivial

noncomputable def i__micro_plan__finishE : Entry := .tree (evFunc (envX Tryz.prog [(65, qBehindE), (66, i__micro_plan__loadE), (67, i__micro_plan__computeE), (68, i__micro_plan__controlE), (69, pRim1E), (70, pSim1E), (71, i__micro_plan__laterE)] [] 1299342484808491477133836286951679 8) Tryz.f25)

theorem i__micro_plan__finish_ok : EntryOk Tryz.prog 25 i__micro_plan__finishE := inl_ok (P := Tryz.prog) (n := 1299342484808491477133836286951679) (k := 8) (l := [(65, qBehindE), (66, i__micro_plan__loadE), (67, i__micro_plan__computeE), (68, i__micro_plan__controlE), (69, pRim1E), (70, pSim1E), (71, i__micro_plan__laterE)]) (ol := []) ⟨qBehind_ok, i__micro_plan__load_ok, i__micro_plan__compute_ok, i__micro_plan__control_ok, pRim1_ok, pSim1_ok, i__micro_plan__later_ok, trivial⟩ Tryz.func25 rfl (by kernel_rfl) Tryz.call25 trivial

abbrev pFinTs : List Sh := [Sh.agg (R.pair (R.int IntKind.i64) (R.pair (R.pair (R.int IntKind.u8) (R.pair (R.int IntKind.u8) (R.pair (R.int IntKind.u8) (R.pair (R.int IntKind.u8) (R.pair (R.int IntKind.u8) (R.pair (R.int IntKind.u8) (R.pair (R.int IntKind.u8) (R.pair (R.pair R.bool (R.pair R.bool (R.pair R.bool (R.pair R.bool (R.pair R.bool (R.pair R.bool R.bool)))))) (R.pair (R.int IntKind.u16) (R.int IntKind.u16)))))))))) (R.pair R.bool (R.pair R.bool (R.pair R.bool (R.pair (R.int IntKind.u8) (R.pair R.bool (R.pair R.bool (R.pair R.bool (R.pair R.bool (R.pair R.bool (R.pair R.bool R.bool)))))))))))), Sh.one (R.int IntKind.i64), Sh.one (R.sl (R.int IntKind.u8)), Sh.agg (R.pair R.bool (R.pair R.bool (R.pair R.bool (R.pair R.bool (R.pair R.bool (R.pair R.bool (R.pair R.bool (R.pair R.bool R.bool))))))))]

abbrev pFinRs : Rs := Rs.one (Sh.agg (R.pair (R.int IntKind.i64) (R.pair (R.pair (R.int IntKind.u8) (R.pair (R.int IntKind.u8) (R.pair (R.int IntKind.u8) (R.pair (R.int IntKind.u8) (R.pair (R.int IntKind.u8) (R.pair (R.int IntKind.u8) (R.pair (R.int IntKind.u8) (R.pair (R.pair R.bool (R.pair R.bool (R.pair R.bool (R.pair R.bool (R.pair R.bool (R.pair R.bool R.bool)))))) (R.pair (R.int IntKind.u16) (R.int IntKind.u16)))))))))) (R.pair R.bool (R.pair R.bool (R.pair R.bool (R.pair (R.int IntKind.u8) (R.pair R.bool (R.pair R.bool (R.pair R.bool (R.pair R.bool (R.pair R.bool (R.pair R.bool R.bool)))))))))))))

noncomputable def pFinL (k : Int) : List (FuncId × Entry) := [(12, imicro_newPlan_pFinE k), (13, pInternalE), (24, pVector1E), (25, i__micro_plan__finishE)]

theorem pFinL_ok (k : Int) : AllOk Tryz.prog (pFinL k) := ⟨(imicro_newPlan_pFin_ok k), pInternal_ok, pVector1_ok, i__micro_plan__finish_ok, trivial⟩

noncomputable def i__tstateref14_maker__jumpedE : Entry := .tree (evFunc (envX Tryz.prog [(31, mBehindE), (49, mWordE), (53, mTakenE)] [] 4722654783631989407807 8) Tryz.f28)

theorem i__tstateref14_maker__jumped_ok : EntryOk Tryz.prog 28 i__tstateref14_maker__jumpedE := inl_ok (P := Tryz.prog) (n := 4722654783631989407807) (k := 8) (l := [(31, mBehindE), (49, mWordE), (53, mTakenE)]) (ol := []) ⟨mBehind_ok, mWord_ok, mTaken_ok, trivial⟩ Tryz.func28 rfl (by kernel_rfl) Tryz.call28 trivial

noncomputable def i__tstateref14_maker__loadedE : Entry := .tree (evFunc (envX Tryz.prog [(27, mAtE), (32, rPair1E), (47, rGet1E), (49, mWordE), (72, rSetE), (73, rSetPairE), (74, rSetPSWE)] [] 89290093085330224515083647028849395745489151 8) Tryz.f29)

theorem i__tstateref14_maker__loaded_ok : EntryOk Tryz.prog 29 i__tstateref14_maker__loadedE := inl_ok (P := Tryz.prog) (n := 89290093085330224515083647028849395745489151) (k := 8) (l := [(27, mAtE), (32, rPair1E), (47, rGet1E), (49, mWordE), (72, rSetE), (73, rSetPairE), (74, rSetPSWE)]) (ol := []) ⟨mAt_ok, rPair1_ok, rGet1_ok, mWord_ok, rSet_ok, rSetPair_ok, rSetPSW_ok, trivial⟩ Tryz.func29 rfl (by kernel_rfl) Tryz.call29 trivial

noncomputable def i__tstateref14_maker__computedE : Entry := .tree (evFunc (envX Tryz.prog [(27, mAtE), (32, rPair1E), (47, rGet1E), (50, rSteppedE), (72, rSetE), (73, rSetPairE), (75, rDoE), (76, rInxE), (77, rDcxE), (78, rDadE), (79, rDaaE), (80, rRot1E), (81, rDsubE), (82, rArhlE), (83, rRdel1E)] [] 7068251030063838779883004342589958256918126813077978922614622863581249535 8) Tryz.f30)

theorem i__tstateref14_maker__computed_ok : EntryOk Tryz.prog 30 i__tstateref14_maker__computedE := inl_ok (P := Tryz.prog) (n := 7068251030063838779883004342589958256918126813077978922614622863581249535) (k := 8) (l := [(27, mAtE), (32, rPair1E), (47, rGet1E), (50, rSteppedE), (72, rSetE), (73, rSetPairE), (75, rDoE), (76, rInxE), (77, rDcxE), (78, rDadE), (79, rDaaE), (80, rRot1E), (81, rDsubE), (82, rArhlE), (83, rRdel1E)]) (ol := []) ⟨mAt_ok, rPair1_ok, rGet1_ok, rStepped_ok, rSet_ok, rSetPair_ok, rDo_ok, rInx_ok, rDcx_ok, rDad_ok, rDaa_ok, rRot1_ok, rDsub_ok, rArhl_ok, rRdel1_ok, trivial⟩ Tryz.func30 rfl (by kernel_rfl) Tryz.call30 trivial

abbrev rFinTs : List Sh := [Sh.agg (R.pair (R.int IntKind.i64) (R.pair (R.pair (R.int IntKind.u8) (R.pair (R.int IntKind.u8) (R.pair (R.int IntKind.u8) (R.pair (R.int IntKind.u8) (R.pair (R.int IntKind.u8) (R.pair (R.int IntKind.u8) (R.pair (R.int IntKind.u8) (R.pair (R.pair R.bool (R.pair R.bool (R.pair R.bool (R.pair R.bool (R.pair R.bool (R.pair R.bool R.bool)))))) (R.pair (R.int IntKind.u16) (R.int IntKind.u16)))))))))) (R.pair R.bool (R.pair R.bool (R.pair R.bool (R.pair (R.int IntKind.u8) (R.pair R.bool (R.pair R.bool (R.pair R.bool (R.pair R.bool (R.pair R.bool (R.pair R.bool R.bool)))))))))))), Sh.one (R.int IntKind.i64), Sh.one (R.sl (R.int IntKind.u8)), Sh.agg (R.pair R.bool (R.pair R.bool (R.pair R.bool (R.pair R.bool (R.pair R.bool (R.pair R.bool (R.pair R.bool (R.pair R.bool R.bool))))))))]

abbrev rFinRs : Rs := Rs.one (Sh.agg (R.pair (R.int IntKind.i64) (R.pair (R.pair (R.int IntKind.u8) (R.pair (R.int IntKind.u8) (R.pair (R.int IntKind.u8) (R.pair (R.int IntKind.u8) (R.pair (R.int IntKind.u8) (R.pair (R.int IntKind.u8) (R.pair (R.int IntKind.u8) (R.pair (R.pair R.bool (R.pair R.bool (R.pair R.bool (R.pair R.bool (R.pair R.bool (R.pair R.bool R.bool)))))) (R.pair (R.int IntKind.u16) (R.int IntKind.u16)))))))))) (R.pair R.bool (R.pair R.bool (R.pair R.bool (R.pair (R.int IntKind.u8) (R.pair R.bool (R.pair R.bool (R.pair R.bool (R.pair R.bool (R.pair R.bool (R.pair R.bool R.bool)))))))))))))

noncomputable def rFinL (k : Int) : List (FuncId × Entry) := [(16, rInternalE), (19, rDecKE k), (26, rVectorE), (27, mAtE), (28, i__tstateref14_maker__jumpedE), (29, i__tstateref14_maker__loadedE), (30, i__tstateref14_maker__computedE), (31, mBehindE), (32, rPair1E), (33, rRim1E), (34, rSimE)]

theorem rFinL_ok (k : Int) : AllOk Tryz.prog (rFinL k) := ⟨rInternal_ok, (rDecK_ok k), rVector_ok, mAt_ok, i__tstateref14_maker__jumped_ok, i__tstateref14_maker__loaded_ok, i__tstateref14_maker__computed_ok, mBehind_ok, rPair1_ok, rRim1_ok, rSim_ok, trivial⟩
end
end Go.Proofs.YtiflfdlglncjlaaGreat
