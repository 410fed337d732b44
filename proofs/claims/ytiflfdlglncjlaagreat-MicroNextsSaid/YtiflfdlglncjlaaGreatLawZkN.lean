/-
  Contracts of functions; each found by the symbolic executor and checked by the kernel. Conditions: none.
-/
import Derived.Test.YtiflfdlglncjlaaGreatS3D
import Derived.Test.YtiflfdlglncjlaaGreatProg
import Derived.Test.YtiflfdlglncjlaaGreatMicroL
import Derived.Test.YtiflfdlglncjlaaGreatNextAll
set_option linter.unusedSimpArgs false
open Go Go.S3 Go.Proofs
set_option linter.unusedVariables false
set_option maxRecDepth 100000
namespace Go.Proofs.YtiflfdlglncjlaaGreat
noncomputable section
noncomputable def znmicro_newPlan_kKnownNE (k : Int) : Entry := .tree (evFunc (envX Tryz.prog [(35, pDecKE k), (36, qAtE)] [] 255 8) Tryz.f12)


theorem znmicro_newPlan_kKnownN_ok (k : Int) : EntryOk Tryz.prog 12 (znmicro_newPlan_kKnownNE k) := inl_ok (P := Tryz.prog) (n := 255) (k := 8) (l := [(35, pDecKE k), (36, qAtE)]) (ol := []) ⟨(pDecK_ok k), qAt_ok, trivial⟩ Tryz.func12 rfl (by kernel_rfl) Tryz.call12 trivial


noncomputable def zn__micro_plan__loadE : Entry := .tree (evFunc (envX Tryz.prog [(36, qAtE), (39, qRegE), (93, qJoinE), (105, pSet1E), (106, pSetPair1E)] [] 2597417327555236063515274458956831 8) Tryz.f66)


theorem zn__micro_plan__load_ok : EntryOk Tryz.prog 66 zn__micro_plan__loadE := inl_ok (P := Tryz.prog) (n := 2597417327555236063515274458956831) (k := 8) (l := [(36, qAtE), (39, qRegE), (93, qJoinE), (105, pSet1E), (106, pSetPair1E)]) (ol := []) ⟨qAt_ok, qReg_ok, qJoin_ok, pSet1_ok, pSetPair1_ok, trivial⟩ Tryz.func66 rfl (by kernel_rfl) Tryz.call66 trivial


noncomputable def zn__micro_plan__computeE : Entry := .tree (evFunc (envX Tryz.prog [(36, qAtE), (38, qPairE), (39, qRegE), (91, pInr1E), (92, pDcr1E), (105, pSet1E), (106, pSetPair1E), (107, pDo1E), (108, qOperandE), (109, pInx1E), (110, pDcx1E), (111, pDad1E), (112, pDaa1E), (113, pRot1E)] [] 7069140681974987581262622498806463579024171163532525608263727578473562367 8) Tryz.f67)


theorem zn__micro_plan__compute_ok : EntryOk Tryz.prog 67 zn__micro_plan__computeE := inl_ok (P := Tryz.prog) (n := 7069140681974987581262622498806463579024171163532525608263727578473562367) (k := 8) (l := [(36, qAtE), (38, qPairE), (39, qRegE), (91, pInr1E), (92, pDcr1E), (105, pSet1E), (106, pSetPair1E), (107, pDo1E), (108, qOperandE), (109, pInx1E), (110, pDcx1E), (111, pDad1E), (112, pDaa1E), (113, pRot1E)]) (ol := []) ⟨qAt_ok, qPair_ok, qReg_ok, pInr1_ok, pDcr1_ok, pSet1_ok, pSetPair1_ok, pDo1_ok, qOperand_ok, pInx1_ok, pDcx1_ok, pDad1_ok, pDaa1_ok, pRot1_ok, trivial⟩ Tryz.func67 rfl (by kernel_rfl) Tryz.call67 trivial


noncomputable def zn__micro_plan__controlE : Entry := .tree (evFunc (envX Tryz.prog [(38, qPairE), (93, qJoinE), (95, qTakenE), (106, pSetPair1E), (114, pSetPSW1E)] [] 1300629477622019213679053869679119 8) Tryz.f68)


theorem zn__micro_plan__control_ok : EntryOk Tryz.prog 68 zn__micro_plan__controlE := inl_ok (P := Tryz.prog) (n := 1300629477622019213679053869679119) (k := 8) (l := [(38, qPairE), (93, qJoinE), (95, qTakenE), (106, pSetPair1E), (114, pSetPSW1E)]) (ol := []) ⟨qPair_ok, qJoin_ok, qTaken_ok, pSetPair1_ok, pSetPSW1_ok, trivial⟩ Tryz.func68 rfl (by kernel_rfl) Tryz.call68 trivial


noncomputable def zn__micro_plan__laterE : Entry := .tree (evFunc (envX Tryz.prog [(36, qAtE), (38, qPairE), (106, pSetPair1E), (116, pDsub1E), (117, pArhl1E), (118, pRdel1E)] [] 19808249554387950831669350527 8) Tryz.f71)


theorem zn__micro_plan__later_ok : EntryOk Tryz.prog 71 zn__micro_plan__laterE := inl_ok (P := Tryz.prog) (n := 19808249554387950831669350527) (k := 8) (l := [(36, qAtE), (38, qPairE), (106, pSetPair1E), (116, pDsub1E), (117, pArhl1E), (118, pRdel1E)]) (ol := []) ⟨qAt_ok, qPair_ok, pSetPair1_ok, pDsub1_ok, pArhl1_ok, pRdel1_ok, trivial⟩ Tryz.func71 rfl (by kernel_rfl) Tryz.call71 trivial


noncomputable def zn__micro_plan__finishE : Entry := .tree (evFunc (envX Tryz.prog [(65, qBehindE), (66, zn__micro_plan__loadE), (67, zn__micro_plan__computeE), (68, zn__micro_plan__controlE), (69, pRim1E), (70, pSim1E), (71, zn__micro_plan__laterE)] [] 1299342484808491477133836286951679 8) Tryz.f25)


theorem zn__micro_plan__finish_ok : EntryOk Tryz.prog 25 zn__micro_plan__finishE := inl_ok (P := Tryz.prog) (n := 1299342484808491477133836286951679) (k := 8) (l := [(65, qBehindE), (66, zn__micro_plan__loadE), (67, zn__micro_plan__computeE), (68, zn__micro_plan__controlE), (69, pRim1E), (70, pSim1E), (71, zn__micro_plan__laterE)]) (ol := []) ⟨qBehind_ok, zn__micro_plan__load_ok, zn__micro_plan__compute_ok, zn__micro_plan__control_ok, pRim1_ok, pSim1_ok, zn__micro_plan__later_ok, trivial⟩ Tryz.func25 rfl (by kernel_rfl) Tryz.call25 trivial


noncomputable def znmicro_Finish_kKnownNE (k : Int) : Entry := .tree (evFunc (envX Tryz.prog [(12, znmicro_newPlan_kKnownNE k), (13, pInternalE), (24, pVector1E), (25, zn__micro_plan__finishE)] [] 1023 8) Tryz.f9)


theorem znmicro_Finish_kKnownN_ok (k : Int) : EntryOk Tryz.prog 9 (znmicro_Finish_kKnownNE k) := inl_ok (P := Tryz.prog) (n := 1023) (k := 8) (l := [(12, znmicro_newPlan_kKnownNE k), (13, pInternalE), (24, pVector1E), (25, zn__micro_plan__finishE)]) (ol := []) ⟨(znmicro_newPlan_kKnownN_ok k), pInternal_ok, pVector1_ok, zn__micro_plan__finish_ok, trivial⟩ Tryz.func9 rfl (by kernel_rfl) Tryz.call9 trivial


abbrev kKnownNTs : List Sh := []

abbrev kKnownNRs : Rs := Rs.one (Sh.one R.bool)

noncomputable def kKnownNL (k : Int) : List (FuncId × Entry) := [(6, pNextE), (9, znmicro_Finish_kKnownNE k), (11, pFirstE)]


theorem kKnownNL_ok (k : Int) : AllOk Tryz.prog (kKnownNL k) := ⟨pNext_ok, (znmicro_Finish_kKnownN_ok k), pFirst_ok, trivial⟩


noncomputable def kKnownN_25T : RT (Option (Bool)) :=
  let x1 : TC := (1, (0, 0, 0, 0, 0, 0, 0, (false, false, false, false, false, false, false), 256, 5), false, false, false, 0, false, false, false, false, false, false, false)
  let x2 : TC × Bool × List Int × TI × List TY := (x1, 0 == 5, [205, 52, 18, 0, 8], (0, 0, 0, 0, 0, 0, 0, 0), [])
  let x3 : Bool := qAtC x2 0
  let x4 : Int × Int × Int × Int × Int × Int × Int × Int := rDecode 1 (qAt x2 0)
  let x5 : Bool := !x3 || x4.1 == 25
  let x6 : Bool := !x5
  let x7 : Bool := x6 || x3
  let x8 : Bool := !x7
  let x9 : TC × Bool × List Int × TI × List TY := (x1, 0 == 5, [205, 52, 18, 0, 8], (25, x4.2), [])
  .br (pInternal 0 || (x8 || (x6 || (!qTaken x9 || qJoinC x9 1))))
  (.br (pInternal 0 || (x8 || x5))
   (.br (pInternal 0 || x7)
    (.br (pInternal 0)
     (.leaf (some (false)))
     (.leaf (some (true))))
    (.leaf none))
   (.leaf none))
  (.leaf none)

noncomputable def kKnownN_25 : Bool := getO kKnownNRs.dflt (kKnownN_25T ).val

noncomputable def kKnownN_25C : Bool := okB (kKnownN_25T ).val

theorem kKnownN_25_ev (a : HL kKnownNTs) : evVal (envX Tryz.prog (kKnownNL 25) [] 127 8) Tryz.f5 kKnownNTs kKnownNRs a = kKnownN_25T  := by kernel_rfl

end
end Go.Proofs.YtiflfdlglncjlaaGreat
