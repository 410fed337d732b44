/-
  Contracts of functions; each found by the symbolic executor and checked by the kernel. Conditions: none.
-/
import Derived.Test.YteboknglfjadoaaGreatS3D
import Derived.Test.YteboknglfjadoaaGreatProg
import Derived.Test.YteboknglfjadoaaGreatMicroL
set_option linter.unusedSimpArgs false
open Go Go.S3 Go.Proofs
set_option linter.unusedVariables false
set_option maxRecDepth 100000
namespace Go.Proofs.YteboknglfjadoaaGreat
noncomputable section
noncomputable def imicro_newPlan_pFinE (k : Int) : Entry := .tree (evFunc (envX Tryz.prog [(178, pDecKE k), (210, qAtE)] [] 255 8) Tryz.f172)

theorem imicro_newPlan_pFin_ok (k : Int) : EntryOk Tryz.prog 172 (imicro_newPlan_pFinE k) := inl_ok (P := Tryz.prog) (n := 255) (k := 8) (l := [(178, pDecKE k), (210, qAtE)]) (ol := []) ⟨(pDecK_ok k), qAt_ok, trivial⟩ Tryz.func172 rfl (by kernel_rfl) Tryz.call172 trivial

noncomputable def i__micro_plan__loadE : Entry := .tree (evFunc (envX Tryz.prog [(210, qAtE), (213, qRegE), (252, qJoinE), (269, pSet1E), (270, pSetPair1E)] [] 2597417327555236063515274458956831 8) Tryz.f239)

theorem i__micro_plan__load_ok : EntryOk Tryz.prog 239 i__micro_plan__loadE := inl_ok (P := Tryz.prog) (n := 2597417327555236063515274458956831) (k := 8) (l := [(210, qAtE), (213, qRegE), (252, qJoinE), (269, pSet1E), (270, pSetPair1E)]) (ol := []) ⟨qAt_ok, qReg_ok, qJoin_ok, pSet1_ok, pSetPair1_ok, trivial⟩ Tryz.func239 rfl (by kernel_rfl) Tryz.call239 trivial

noncomputable def i__micro_plan__computeE : Entry := .tree (evFunc (envX Tryz.prog [(210, qAtE), (212, qPairE), (213, qRegE), (250, pInr1E), (251, pDcr1E), (269, pSet1E), (270, pSetPair1E), (271, pDo1E), (272, qOperandE), (273, pInx1E), (274, pDcx1E), (275, pDad1E), (276, pDaa1E), (277, pRot1E)] [] 7069140681974987581262622498806463579024171163532525608263727578473562367 8) Tryz.f240)

theorem i__micro_plan__compute_ok : EntryOk Tryz.prog 240 i__micro_plan__computeE := inl_ok (P := Tryz.prog) (n := 7069140681974987581262622498806463579024171163532525608263727578473562367) (k := 8) (l := [(210, qAtE), (212, qPairE), (213, qRegE), (250, pInr1E), (251, pDcr1E), (269, pSet1E), (270, pSetPair1E), (271, pDo1E), (272, qOperandE), (273, pInx1E), (274, pDcx1E), (275, pDad1E), (276, pDaa1E), (277, pRot1E)]) (ol := []) ⟨qAt_ok, qPair_ok, qReg_ok, pInr1_ok, pDcr1_ok, pSet1_ok, pSetPair1_ok, pDo1_ok, qOperand_ok, pInx1_ok, pDcx1_ok, pDad1_ok, pDaa1_ok, pRot1_ok, trivial⟩ Tryz.func240 rfl (by kernel_rfl) Tryz.call240 trivial

noncomputable def i__micro_plan__controlE : Entry := .tree (evFunc (envX Tryz.prog [(212, qPairE), (252, qJoinE), (254, qTakenE), (270, pSetPair1E), (278, pSetPSW1E)] [] 1300629477622019213679053869679119 8) Tryz.f241)

theorem i__micro_plan__control_ok : EntryOk Tryz.prog 241 i__micro_plan__controlE := inl_ok (P := Tryz.prog) (n := 1300629477622019213679053869679119) (k := 8) (l := [(212, qPairE), (252, qJoinE), (254, qTakenE), (270, pSetPair1E), (278, pSetPSW1E)]) (ol := []) ⟨qPair_ok, qJoin_ok, qTaken_ok, pSetPair1_ok, pSetPSW1_ok, trivial⟩ Tryz.func241 rfl (by kernel_rfl) Tryz.call241 trivial

noncomputable def i__micro_plan__laterE : Entry := .tree (evFunc (envX Tryz.prog [(210, qAtE), (212, qPairE), (270, pSetPair1E), (280, pDsub1E), (281, pArhl1E), (282, pRdel1E)] [] 19808249554387950831669350527 8) Tryz.f244)

theorem i__micro_plan__later_ok : EntryOk Tryz.prog 244 i__micro_plan__laterE := inl_ok (P := Tryz.prog) (n := 19808249554387950831669350527) (k := 8) (l := [(210, qAtE), (212, qPairE), (270, pSetPair1E), (280, pDsub1E), (281, pArhl1E), (282, pRdel1E)]) (ol := []) ⟨qAt_ok, qPair_ok, pSetPair1_ok, pDsub1_ok, pArhl1_ok, pRdel1_ok, trivial⟩ Tryz.func244 rfl (by kernel_rfl) Tryz.call244 trivial

noncomputable def i__micro_plan__finishE : Entry := .tree (evFunc (envX Tryz.prog [(238, qBehindE), (239, i__micro_plan__loadE), (240, i__micro_plan__computeE), (241, i__micro_plan__controlE), (242, pRim1E), (243, pSim1E), (244, i__micro_plan__laterE)] [] 1299342484808491477133836286951679 8) Tryz.f207)

theorem i__micro_plan__finish_ok : EntryOk Tryz.prog 207 i__micro_plan__finishE := inl_ok (P := Tryz.prog) (n := 1299342484808491477133836286951679) (k := 8) (l := [(238, qBehindE), (239, i__micro_plan__loadE), (240, i__micro_plan__computeE), (241, i__micro_plan__controlE), (242, pRim1E), (243, pSim1E), (244, i__micro_plan__laterE)]) (ol := []) ⟨qBehind_ok, i__micro_plan__load_ok, i__micro_plan__compute_ok, i__micro_plan__control_ok, pRim1_ok, pSim1_ok, i__micro_plan__later_ok, trivial⟩ Tryz.func207 rfl (by kernel_rfl) Tryz.call207 trivial

abbrev pFinTs : List Sh := [Sh.agg (R.pair (R.int IntKind.i64) (R.pair (R.pair (R.int IntKind.u8) (R.pair (R.int IntKind.u8) (R.pair (R.int IntKind.u8) (R.pair (R.int IntKind.u8) (R.pair (R.int IntKind.u8) (R.pair (R.int IntKind.u8) (R.pair (R.int IntKind.u8) (R.pair (R.pair R.bool (R.pair R.bool (R.pair R.bool (R.pair R.bool (R.pair R.bool (R.pair R.bool R.bool)))))) (R.pair (R.int IntKind.u16) (R.int IntKind.u16)))))))))) (R.pair R.bool (R.pair R.bool (R.pair R.bool (R.pair (R.int IntKind.u8) (R.pair R.bool (R.pair R.bool (R.pair R.bool (R.pair R.bool (R.pair R.bool (R.pair R.bool R.bool)))))))))))), Sh.one (R.int IntKind.i64), Sh.one (R.sl (R.int IntKind.u8)), Sh.agg (R.pair R.bool (R.pair R.bool (R.pair R.bool (R.pair R.bool (R.pair R.bool (R.pair R.bool (R.pair R.bool (R.pair R.bool R.bool))))))))]

abbrev pFinRs : Rs := Rs.one (Sh.agg (R.pair (R.int IntKind.i64) (R.pair (R.pair (R.int IntKind.u8) (R.pair (R.int IntKind.u8) (R.pair (R.int IntKind.u8) (R.pair (R.int IntKind.u8) (R.pair (R.int IntKind.u8) (R.pair (R.int IntKind.u8) (R.pair (R.int IntKind.u8) (R.pair (R.pair R.bool (R.pair R.bool (R.pair R.bool (R.pair R.bool (R.pair R.bool (R.pair R.bool R.bool)))))) (R.pair (R.int IntKind.u16) (R.int IntKind.u16)))))))))) (R.pair R.bool (R.pair R.bool (R.pair R.bool (R.pair (R.int IntKind.u8) (R.pair R.bool (R.pair R.bool (R.pair R.bool (R.pair R.bool (R.pair R.bool (R.pair R.bool R.bool)))))))))))))

noncomputable def pFinL (k : Int) : List (FuncId × Entry) := [(172, imicro_newPlan_pFinE k), (173, pInternalE), (206, pVector1E), (207, i__micro_plan__finishE)]

theorem pFinL_ok (k : Int) : AllOk Tryz.prog (pFinL k) := ⟨(imicro_newPlan_pFin_ok k), pInternal_ok, pVector1_ok, i__micro_plan__finish_ok, trivial⟩

noncomputable def i__tstateref14_maker__jumpedE : Entry := .tree (evFunc (envX Tryz.prog [(76, mBehindE), (112, mWordE), (116, mTakenE)] [] 4722654783631989407807 8) Tryz.f73)

theorem i__tstateref14_maker__jumped_ok : EntryOk Tryz.prog 73 i__tstateref14_maker__jumpedE := inl_ok (P := Tryz.prog) (n := 4722654783631989407807) (k := 8) (l := [(76, mBehindE), (112, mWordE), (116, mTakenE)]) (ol := []) ⟨mBehind_ok, mWord_ok, mTaken_ok, trivial⟩ Tryz.func73 rfl (by kernel_rfl) Tryz.call73 trivial

noncomputable def i__tstateref14_maker__loadedE : Entry := .tree (evFunc (envX Tryz.prog [(72, mAtE), (77, rPair1E), (110, rGet1E), (112, mWordE), (135, rSetE), (136, rSetPairE), (137, rSetPSWE)] [] 89290093085330224515083647028849395745489151 8) Tryz.f74)

theorem i__tstateref14_maker__loaded_ok : EntryOk Tryz.prog 74 i__tstateref14_maker__loadedE := inl_ok (P := Tryz.prog) (n := 89290093085330224515083647028849395745489151) (k := 8) (l := [(72, mAtE), (77, rPair1E), (110, rGet1E), (112, mWordE), (135, rSetE), (136, rSetPairE), (137, rSetPSWE)]) (ol := []) ⟨mAt_ok, rPair1_ok, rGet1_ok, mWord_ok, rSet_ok, rSetPair_ok, rSetPSW_ok, trivial⟩ Tryz.func74 rfl (by kernel_rfl) Tryz.call74 trivial

noncomputable def i__tstateref14_maker__computedE : Entry := .tree (evFunc (envX Tryz.prog [(72, mAtE), (77, rPair1E), (110, rGet1E), (113, rSteppedE), (135, rSetE), (136, rSetPairE), (138, rDoE), (139, rInxE), (140, rDcxE), (141, rDadE), (142, rDaaE), (143, rRot1E), (144, rDsubE), (145, rArhlE), (146, rRdel1E)] [] 7068251030063838779883004342589958256918126813077978922614622863581249535 8) Tryz.f75)

theorem i__tstateref14_maker__computed_ok : EntryOk Tryz.prog 75 i__tstateref14_maker__computedE := inl_ok (P := Tryz.prog) (n := 7068251030063838779883004342589958256918126813077978922614622863581249535) (k := 8) (l := [(72, mAtE), (77, rPair1E), (110, rGet1E), (113, rSteppedE), (135, rSetE), (136, rSetPairE), (138, rDoE), (139, rInxE), (140, rDcxE), (141, rDadE), (142, rDaaE), (143, rRot1E), (144, rDsubE), (145, rArhlE), (146, rRdel1E)]) (ol := []) ⟨mAt_ok, rPair1_ok, rGet1_ok, rStepped_ok, rSet_ok, rSetPair_ok, rDo_ok, rInx_ok, rDcx_ok, rDad_ok, rDaa_ok, rRot1_ok, rDsub_ok, rArhl_ok, rRdel1_ok, trivial⟩ Tryz.func75 rfl (by kernel_rfl) Tryz.call75 trivial

abbrev rFinTs : List Sh := [Sh.agg (R.pair (R.int IntKind.i64) (R.pair (R.pair (R.int IntKind.u8) (R.pair (R.int IntKind.u8) (R.pair (R.int IntKind.u8) (R.pair (R.int IntKind.u8) (R.pair (R.int IntKind.u8) (R.pair (R.int IntKind.u8) (R.pair (R.int IntKind.u8) (R.pair (R.pair R.bool (R.pair R.bool (R.pair R.bool (R.pair R.bool (R.pair R.bool (R.pair R.bool R.bool)))))) (R.pair (R.int IntKind.u16) (R.int IntKind.u16)))))))))) (R.pair R.bool (R.pair R.bool (R.pair R.bool (R.pair (R.int IntKind.u8) (R.pair R.bool (R.pair R.bool (R.pair R.bool (R.pair R.bool (R.pair R.bool (R.pair R.bool R.bool)))))))))))), Sh.one (R.int IntKind.i64), Sh.one (R.sl (R.int IntKind.u8)), Sh.agg (R.pair R.bool (R.pair R.bool (R.pair R.bool (R.pair R.bool (R.pair R.bool (R.pair R.bool (R.pair R.bool (R.pair R.bool R.bool))))))))]

abbrev rFinRs : Rs := Rs.one (Sh.agg (R.pair (R.int IntKind.i64) (R.pair (R.pair (R.int IntKind.u8) (R.pair (R.int IntKind.u8) (R.pair (R.int IntKind.u8) (R.pair (R.int IntKind.u8) (R.pair (R.int IntKind.u8) (R.pair (R.int IntKind.u8) (R.pair (R.int IntKind.u8) (R.pair (R.pair R.bool (R.pair R.bool (R.pair R.bool (R.pair R.bool (R.pair R.bool (R.pair R.bool R.bool)))))) (R.pair (R.int IntKind.u16) (R.int IntKind.u16)))))))))) (R.pair R.bool (R.pair R.bool (R.pair R.bool (R.pair (R.int IntKind.u8) (R.pair R.bool (R.pair R.bool (R.pair R.bool (R.pair R.bool (R.pair R.bool (R.pair R.bool R.bool)))))))))))))

noncomputable def rFinL (k : Int) : List (FuncId × Entry) := [(25, rDecKE k), (59, rInternalE), (71, rVectorE), (72, mAtE), (73, i__tstateref14_maker__jumpedE), (74, i__tstateref14_maker__loadedE), (75, i__tstateref14_maker__computedE), (76, mBehindE), (77, rPair1E), (78, rRim1E), (79, rSimE)]

theorem rFinL_ok (k : Int) : AllOk Tryz.prog (rFinL k) := ⟨(rDecK_ok k), rInternal_ok, rVector_ok, mAt_ok, i__tstateref14_maker__jumped_ok, i__tstateref14_maker__loaded_ok, i__tstateref14_maker__computed_ok, mBehind_ok, rPair1_ok, rRim1_ok, rSim_ok, trivial⟩
end
end Go.Proofs.YteboknglfjadoaaGreat
