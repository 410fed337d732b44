/-
  Contracts of functions; each found by the symbolic executor and checked by the kernel. Conditions: none.
-/
import Derived.Test.YtiflfdlglncjlaaS3D
import Derived.Test.YtiflfdlglncjlaaProg
import Derived.Test.YtiflfdlglncjlaaMicroL
set_option linter.unusedSimpArgs false
open Go Go.S3 Go.Proofs
set_option linter.unusedVariables false
set_option maxRecDepth 100000
namespace Go.Proofs.Ytiflfdlglncjlaa
noncomputable section
noncomputable def imicro_newPlan_pNextE (k : Int) : Entry := .tree (evFunc (envX Try.prog [(35, pDecKE k), (65, qAtE)] [] 255 8) Try.f48)

theorem imicro_newPlan_pNext_ok (k : Int) : EntryOk Try.prog 48 (imicro_newPlan_pNextE k) := inl_ok (P := Try.prog) (n := 255) (k := 8) (l := [(35, pDecKE k), (65, qAtE)]) (ol := []) ⟨(pDecK_ok k), qAt_ok, trivial⟩ Try.func48 rfl (by kernel_rfl) Try.call48 trivial

noncomputable def i__micro_plan__addE : Entry := .tree (evFunc (envX Try.prog [] [] 255 8) Try.f66)

theorem i__micro_plan__add_ok : EntryOk Try.prog 66 i__micro_plan__addE := inl_ok (P := Try.prog) (n := 255) (k := 8) (l := []) (ol := []) trivial Try.func66 rfl (by kernel_rfl) Try.call66 trivial

noncomputable def i__micro_plan__pushE : Entry := .tree (evFunc (envX Try.prog [(66, i__micro_plan__addE)] [] 15 8) Try.f50)

theorem i__micro_plan__push_ok : EntryOk Try.prog 50 i__micro_plan__pushE := inl_ok (P := Try.prog) (n := 15) (k := 8) (l := [(66, i__micro_plan__addE)]) (ol := []) ⟨i__micro_plan__add_ok, trivial⟩ Try.func50 rfl (by kernel_rfl) Try.call50 trivial

noncomputable def i__micro_plan__operandsE : Entry := .tree (evFunc (envX Try.prog [(66, i__micro_plan__addE)] [] 31 8) Try.f69)

theorem i__micro_plan__operands_ok : EntryOk Try.prog 69 i__micro_plan__operandsE := inl_ok (P := Try.prog) (n := 31) (k := 8) (l := [(66, i__micro_plan__addE)]) (ol := []) ⟨i__micro_plan__add_ok, trivial⟩ Try.func69 rfl (by kernel_rfl) Try.call69 trivial

noncomputable def i__micro_plan__wordsE : Entry := .tree (evFunc (envX Try.prog [(66, i__micro_plan__addE)] [] 63 8) Try.f73)

theorem i__micro_plan__words_ok : EntryOk Try.prog 73 i__micro_plan__wordsE := inl_ok (P := Try.prog) (n := 63) (k := 8) (l := [(66, i__micro_plan__addE)]) (ol := []) ⟨i__micro_plan__add_ok, trivial⟩ Try.func73 rfl (by kernel_rfl) Try.call73 trivial

noncomputable def i__micro_plan__fillDirectE : Entry := .tree (evFunc (envX Try.prog [(66, i__micro_plan__addE), (69, i__micro_plan__operandsE), (73, i__micro_plan__wordsE), (101, qJoinE)] [] 268570631 8) Try.f71)

theorem i__micro_plan__fillDirect_ok : EntryOk Try.prog 71 i__micro_plan__fillDirectE := inl_ok (P := Try.prog) (n := 268570631) (k := 8) (l := [(66, i__micro_plan__addE), (69, i__micro_plan__operandsE), (73, i__micro_plan__wordsE), (101, qJoinE)]) (ol := []) ⟨i__micro_plan__add_ok, i__micro_plan__operands_ok, i__micro_plan__words_ok, qJoin_ok, trivial⟩ Try.func71 rfl (by kernel_rfl) Try.call71 trivial

noncomputable def i__micro_plan__jumpE : Entry := .tree (evFunc (envX Try.prog [(69, i__micro_plan__operandsE), (103, qTakenE)] [] 15 8) Try.f102)

theorem i__micro_plan__jump_ok : EntryOk Try.prog 102 i__micro_plan__jumpE := inl_ok (P := Try.prog) (n := 15) (k := 8) (l := [(69, i__micro_plan__operandsE), (103, qTakenE)]) (ol := []) ⟨i__micro_plan__operands_ok, qTaken_ok, trivial⟩ Try.func102 rfl (by kernel_rfl) Try.call102 trivial

noncomputable def i__micro_plan__popE : Entry := .tree (evFunc (envX Try.prog [(66, i__micro_plan__addE)] [] 3 8) Try.f104)

theorem i__micro_plan__pop_ok : EntryOk Try.prog 104 i__micro_plan__popE := inl_ok (P := Try.prog) (n := 3) (k := 8) (l := [(66, i__micro_plan__addE)]) (ol := []) ⟨i__micro_plan__add_ok, trivial⟩ Try.func104 rfl (by kernel_rfl) Try.call104 trivial

noncomputable def i__micro_plan__idleE : Entry := .tree (evFunc (envX Try.prog [(66, i__micro_plan__addE)] [] 15 8) Try.f106)

theorem i__micro_plan__idle_ok : EntryOk Try.prog 106 i__micro_plan__idleE := inl_ok (P := Try.prog) (n := 15) (k := 8) (l := [(66, i__micro_plan__addE)]) (ol := []) ⟨i__micro_plan__add_ok, trivial⟩ Try.func106 rfl (by kernel_rfl) Try.call106 trivial

noncomputable def i__micro_plan__fillControlE : Entry := .tree (evFunc (envX Try.prog [(50, i__micro_plan__pushE), (66, i__micro_plan__addE), (67, qPairE), (69, i__micro_plan__operandsE), (75, qBehindE), (102, i__micro_plan__jumpE), (103, qTakenE), (104, i__micro_plan__popE), (105, pPSW1E), (106, i__micro_plan__idleE)] [] 1517844491342638470129438826421819271357141255 8) Try.f74)

theorem i__micro_plan__fillControl_ok : EntryOk Try.prog 74 i__micro_plan__fillControlE := inl_ok (P := Try.prog) (n := 1517844491342638470129438826421819271357141255) (k := 8) (l := [(50, i__micro_plan__pushE), (66, i__micro_plan__addE), (67, qPairE), (69, i__micro_plan__operandsE), (75, qBehindE), (102, i__micro_plan__jumpE), (103, qTakenE), (104, i__micro_plan__popE), (105, pPSW1E), (106, i__micro_plan__idleE)]) (ol := []) ⟨i__micro_plan__push_ok, i__micro_plan__add_ok, qPair_ok, i__micro_plan__operands_ok, qBehind_ok, i__micro_plan__jump_ok, qTaken_ok, i__micro_plan__pop_ok, pPSW1_ok, i__micro_plan__idle_ok, trivial⟩ Try.func74 rfl (by kernel_rfl) Try.call74 trivial

noncomputable def i__micro_plan__fillE : Entry := .tree (evFunc (envX Try.prog [(65, qAtE), (66, i__micro_plan__addE), (67, qPairE), (68, qRegE), (69, i__micro_plan__operandsE), (70, qCountedE), (71, i__micro_plan__fillDirectE), (72, pJoin1E), (73, i__micro_plan__wordsE), (74, i__micro_plan__fillControlE)] [] 2854495396045824897803138545268610783927869455 8) Try.f51)

theorem i__micro_plan__fill_ok : EntryOk Try.prog 51 i__micro_plan__fillE := inl_ok (P := Try.prog) (n := 2854495396045824897803138545268610783927869455) (k := 8) (l := [(65, qAtE), (66, i__micro_plan__addE), (67, qPairE), (68, qRegE), (69, i__micro_plan__operandsE), (70, qCountedE), (71, i__micro_plan__fillDirectE), (72, pJoin1E), (73, i__micro_plan__wordsE), (74, i__micro_plan__fillControlE)]) (ol := []) ⟨qAt_ok, i__micro_plan__add_ok, qPair_ok, qReg_ok, i__micro_plan__operands_ok, qCounted_ok, i__micro_plan__fillDirect_ok, pJoin1_ok, i__micro_plan__words_ok, i__micro_plan__fillControl_ok, trivial⟩ Try.func51 rfl (by kernel_rfl) Try.call51 trivial

abbrev pNextTs : List Sh := [Sh.agg (R.pair (R.int IntKind.i64) (R.pair (R.pair (R.int IntKind.u8) (R.pair (R.int IntKind.u8) (R.pair (R.int IntKind.u8) (R.pair (R.int IntKind.u8) (R.pair (R.int IntKind.u8) (R.pair (R.int IntKind.u8) (R.pair (R.int IntKind.u8) (R.pair (R.pair R.bool (R.pair R.bool (R.pair R.bool (R.pair R.bool (R.pair R.bool (R.pair R.bool R.bool)))))) (R.pair (R.int IntKind.u16) (R.int IntKind.u16)))))))))) (R.pair R.bool (R.pair R.bool (R.pair R.bool (R.pair (R.int IntKind.u8) (R.pair R.bool (R.pair R.bool (R.pair R.bool (R.pair R.bool (R.pair R.bool (R.pair R.bool R.bool)))))))))))), Sh.one (R.int IntKind.i64), Sh.one (R.sl (R.int IntKind.u8))]

abbrev pNextRs : Rs := Rs.tup [Sh.agg (RY), Sh.one R.bool]

noncomputable def pNextL (k : Int) : List (FuncId × Entry) := [(48, imicro_newPlan_pNextE k), (49, pInternalE), (50, i__micro_plan__pushE), (51, i__micro_plan__fillE)]

theorem pNextL_ok (k : Int) : AllOk Try.prog (pNextL k) := ⟨(imicro_newPlan_pNext_ok k), pInternal_ok, i__micro_plan__push_ok, i__micro_plan__fill_ok, trivial⟩

noncomputable def i__tstateref14_maker__addE : Entry := .tree (evFunc (envX Try.prog [] [] 255 8) Try.f82)

theorem i__tstateref14_maker__add_ok : EntryOk Try.prog 82 i__tstateref14_maker__addE := inl_ok (P := Try.prog) (n := 255) (k := 8) (l := []) (ol := []) trivial Try.func82 rfl (by kernel_rfl) Try.call82 trivial

noncomputable def i__tstateref14_maker__pushE : Entry := .tree (evFunc (envX Try.prog [(82, i__tstateref14_maker__addE)] [] 15 8) Try.f59)

theorem i__tstateref14_maker__push_ok : EntryOk Try.prog 59 i__tstateref14_maker__pushE := inl_ok (P := Try.prog) (n := 15) (k := 8) (l := [(82, i__tstateref14_maker__addE)]) (ol := []) ⟨i__tstateref14_maker__add_ok, trivial⟩ Try.func59 rfl (by kernel_rfl) Try.call59 trivial

noncomputable def i__tstateref14_maker__operandsE : Entry := .tree (evFunc (envX Try.prog [(82, i__tstateref14_maker__addE)] [] 31 8) Try.f85)

theorem i__tstateref14_maker__operands_ok : EntryOk Try.prog 85 i__tstateref14_maker__operandsE := inl_ok (P := Try.prog) (n := 31) (k := 8) (l := [(82, i__tstateref14_maker__addE)]) (ol := []) ⟨i__tstateref14_maker__add_ok, trivial⟩ Try.func85 rfl (by kernel_rfl) Try.call85 trivial

noncomputable def i__tstateref14_maker__idleE : Entry := .tree (evFunc (envX Try.prog [(82, i__tstateref14_maker__addE)] [] 31 8) Try.f89)

theorem i__tstateref14_maker__idle_ok : EntryOk Try.prog 89 i__tstateref14_maker__idleE := inl_ok (P := Try.prog) (n := 31) (k := 8) (l := [(82, i__tstateref14_maker__addE)]) (ol := []) ⟨i__tstateref14_maker__add_ok, trivial⟩ Try.func89 rfl (by kernel_rfl) Try.call89 trivial

noncomputable def i__tstateref14_maker__targetE : Entry := .tree (evFunc (envX Try.prog [(40, rOnE), (85, i__tstateref14_maker__operandsE), (91, mTakenE)] [] 15 8) Try.f90)

theorem i__tstateref14_maker__target_ok : EntryOk Try.prog 90 i__tstateref14_maker__targetE := inl_ok (P := Try.prog) (n := 15) (k := 8) (l := [(40, rOnE), (85, i__tstateref14_maker__operandsE), (91, mTakenE)]) (ol := []) ⟨rOn_ok, i__tstateref14_maker__operands_ok, mTaken_ok, trivial⟩ Try.func90 rfl (by kernel_rfl) Try.call90 trivial

noncomputable def i__tstateref14_maker__popE : Entry := .tree (evFunc (envX Try.prog [(82, i__tstateref14_maker__addE)] [] 3 8) Try.f93)

theorem i__tstateref14_maker__pop_ok : EntryOk Try.prog 93 i__tstateref14_maker__popE := inl_ok (P := Try.prog) (n := 3) (k := 8) (l := [(82, i__tstateref14_maker__addE)]) (ol := []) ⟨i__tstateref14_maker__add_ok, trivial⟩ Try.func93 rfl (by kernel_rfl) Try.call93 trivial

noncomputable def i__tstateref14_maker__bodyE : Entry := .tree (evFunc (envX Try.prog [(40, rOnE), (59, i__tstateref14_maker__pushE), (82, i__tstateref14_maker__addE), (83, rPair1E), (84, rGet1E), (85, i__tstateref14_maker__operandsE), (86, mAtE), (87, mWordE), (88, rSteppedE), (89, i__tstateref14_maker__idleE), (90, i__tstateref14_maker__targetE), (91, mTakenE), (92, mBehindE), (93, i__tstateref14_maker__popE), (94, rPSW1E), (95, rJoinE)] [] 546879438939764547011187383507185256060619065560359097919357232620146805215141852592455017411118079 8) Try.f60)

theorem i__tstateref14_maker__body_ok : EntryOk Try.prog 60 i__tstateref14_maker__bodyE := inl_ok (P := Try.prog) (n := 546879438939764547011187383507185256060619065560359097919357232620146805215141852592455017411118079) (k := 8) (l := [(40, rOnE), (59, i__tstateref14_maker__pushE), (82, i__tstateref14_maker__addE), (83, rPair1E), (84, rGet1E), (85, i__tstateref14_maker__operandsE), (86, mAtE), (87, mWordE), (88, rSteppedE), (89, i__tstateref14_maker__idleE), (90, i__tstateref14_maker__targetE), (91, mTakenE), (92, mBehindE), (93, i__tstateref14_maker__popE), (94, rPSW1E), (95, rJoinE)]) (ol := []) ⟨rOn_ok, i__tstateref14_maker__push_ok, i__tstateref14_maker__add_ok, rPair1_ok, rGet1_ok, i__tstateref14_maker__operands_ok, mAt_ok, mWord_ok, rStepped_ok, i__tstateref14_maker__idle_ok, i__tstateref14_maker__target_ok, mTaken_ok, mBehind_ok, i__tstateref14_maker__pop_ok, rPSW1_ok, rJoin_ok, trivial⟩ Try.func60 rfl (by kernel_rfl) Try.call60 trivial

abbrev rNextTs : List Sh := [Sh.agg (R.pair (R.int IntKind.i64) (R.pair (R.pair (R.int IntKind.u8) (R.pair (R.int IntKind.u8) (R.pair (R.int IntKind.u8) (R.pair (R.int IntKind.u8) (R.pair (R.int IntKind.u8) (R.pair (R.int IntKind.u8) (R.pair (R.int IntKind.u8) (R.pair (R.pair R.bool (R.pair R.bool (R.pair R.bool (R.pair R.bool (R.pair R.bool (R.pair R.bool R.bool)))))) (R.pair (R.int IntKind.u16) (R.int IntKind.u16)))))))))) (R.pair R.bool (R.pair R.bool (R.pair R.bool (R.pair (R.int IntKind.u8) (R.pair R.bool (R.pair R.bool (R.pair R.bool (R.pair R.bool (R.pair R.bool (R.pair R.bool R.bool)))))))))))), Sh.one (R.int IntKind.i64), Sh.one (R.sl (R.int IntKind.u8))]

abbrev rNextRs : Rs := Rs.tup [Sh.agg (RY), Sh.one R.bool]

noncomputable def rNextL (k : Int) : List (FuncId × Entry) := [(23, rDecKE k), (33, rInternalE), (59, i__tstateref14_maker__pushE), (60, i__tstateref14_maker__bodyE)]

theorem rNextL_ok (k : Int) : AllOk Try.prog (rNextL k) := ⟨(rDecK_ok k), rInternal_ok, i__tstateref14_maker__push_ok, i__tstateref14_maker__body_ok, trivial⟩
end
end Go.Proofs.Ytiflfdlglncjlaa
