/-
  Contracts of functions; each found by the symbolic executor and checked by the kernel. Conditions: none.
-/
import Derived.Test.YtiflfdlglncjlaaGreatS3D
import Derived.Test.YtiflfdlglncjlaaGreatProg
import Derived.Test.YtiflfdlglncjlaaGreatMicroL
set_option linter.unusedSimpArgs false
open Go Go.S3 Go.Proofs
set_option linter.unusedVariables false
set_option maxRecDepth 100000
namespace Go.Proofs.YtiflfdlglncjlaaGreat
noncomputable section
noncomputable def imicro_newPlan_pNextE (k : Int) : Entry := .tree (evFunc (envX Tryz.prog [(35, pDecKE k), (36, qAtE)] [] 255 8) Tryz.f12)

theorem imicro_newPlan_pNext_ok (k : Int) : EntryOk Tryz.prog 12 (imicro_newPlan_pNextE k) := inl_ok (P := Tryz.prog) (n := 255) (k := 8) (l := [(35, pDecKE k), (36, qAtE)]) (ol := []) ⟨(pDecK_ok k), qAt_ok, trivial⟩ Tryz.func12 rfl (by kernel_rfl) Tryz.call12 trivial

noncomputable def i__micro_plan__addE : Entry := .tree (evFunc (envX Tryz.prog [] [] 255 8) Tryz.f37)

theorem i__micro_plan__add_ok : EntryOk Tryz.prog 37 i__micro_plan__addE := inl_ok (P := Tryz.prog) (n := 255) (k := 8) (l := []) (ol := []) trivial Tryz.func37 rfl (by kernel_rfl) Tryz.call37 trivial

noncomputable def i__micro_plan__pushE : Entry := .tree (evFunc (envX Tryz.prog [(37, i__micro_plan__addE)] [] 15 8) Tryz.f14)

theorem i__micro_plan__push_ok : EntryOk Tryz.prog 14 i__micro_plan__pushE := inl_ok (P := Tryz.prog) (n := 15) (k := 8) (l := [(37, i__micro_plan__addE)]) (ol := []) ⟨i__micro_plan__add_ok, trivial⟩ Tryz.func14 rfl (by kernel_rfl) Tryz.call14 trivial

noncomputable def i__micro_plan__operandsE : Entry := .tree (evFunc (envX Tryz.prog [(37, i__micro_plan__addE)] [] 31 8) Tryz.f40)

theorem i__micro_plan__operands_ok : EntryOk Tryz.prog 40 i__micro_plan__operandsE := inl_ok (P := Tryz.prog) (n := 31) (k := 8) (l := [(37, i__micro_plan__addE)]) (ol := []) ⟨i__micro_plan__add_ok, trivial⟩ Tryz.func40 rfl (by kernel_rfl) Tryz.call40 trivial

noncomputable def i__micro_plan__wordsE : Entry := .tree (evFunc (envX Tryz.prog [(37, i__micro_plan__addE)] [] 63 8) Tryz.f44)

theorem i__micro_plan__words_ok : EntryOk Tryz.prog 44 i__micro_plan__wordsE := inl_ok (P := Tryz.prog) (n := 63) (k := 8) (l := [(37, i__micro_plan__addE)]) (ol := []) ⟨i__micro_plan__add_ok, trivial⟩ Tryz.func44 rfl (by kernel_rfl) Tryz.call44 trivial

noncomputable def i__micro_plan__fillDirectE : Entry := .tree (evFunc (envX Tryz.prog [(37, i__micro_plan__addE), (40, i__micro_plan__operandsE), (44, i__micro_plan__wordsE), (93, qJoinE)] [] 268570631 8) Tryz.f42)

theorem i__micro_plan__fillDirect_ok : EntryOk Tryz.prog 42 i__micro_plan__fillDirectE := inl_ok (P := Tryz.prog) (n := 268570631) (k := 8) (l := [(37, i__micro_plan__addE), (40, i__micro_plan__operandsE), (44, i__micro_plan__wordsE), (93, qJoinE)]) (ol := []) ⟨i__micro_plan__add_ok, i__micro_plan__operands_ok, i__micro_plan__words_ok, qJoin_ok, trivial⟩ Tryz.func42 rfl (by kernel_rfl) Tryz.call42 trivial

noncomputable def i__micro_plan__jumpE : Entry := .tree (evFunc (envX Tryz.prog [(40, i__micro_plan__operandsE), (95, qTakenE)] [] 15 8) Tryz.f94)

theorem i__micro_plan__jump_ok : EntryOk Tryz.prog 94 i__micro_plan__jumpE := inl_ok (P := Tryz.prog) (n := 15) (k := 8) (l := [(40, i__micro_plan__operandsE), (95, qTakenE)]) (ol := []) ⟨i__micro_plan__operands_ok, qTaken_ok, trivial⟩ Tryz.func94 rfl (by kernel_rfl) Tryz.call94 trivial

noncomputable def i__micro_plan__popE : Entry := .tree (evFunc (envX Tryz.prog [(37, i__micro_plan__addE)] [] 3 8) Tryz.f96)

theorem i__micro_plan__pop_ok : EntryOk Tryz.prog 96 i__micro_plan__popE := inl_ok (P := Tryz.prog) (n := 3) (k := 8) (l := [(37, i__micro_plan__addE)]) (ol := []) ⟨i__micro_plan__add_ok, trivial⟩ Tryz.func96 rfl (by kernel_rfl) Tryz.call96 trivial

noncomputable def i__micro_plan__idleE : Entry := .tree (evFunc (envX Tryz.prog [(37, i__micro_plan__addE)] [] 15 8) Tryz.f98)

theorem i__micro_plan__idle_ok : EntryOk Tryz.prog 98 i__micro_plan__idleE := inl_ok (P := Tryz.prog) (n := 15) (k := 8) (l := [(37, i__micro_plan__addE)]) (ol := []) ⟨i__micro_plan__add_ok, trivial⟩ Tryz.func98 rfl (by kernel_rfl) Tryz.call98 trivial

noncomputable def i__micro_plan__fillControlE : Entry := .tree (evFunc (envX Tryz.prog [(14, i__micro_plan__pushE), (37, i__micro_plan__addE), (38, qPairE), (40, i__micro_plan__operandsE), (65, qBehindE), (94, i__micro_plan__jumpE), (95, qTakenE), (96, i__micro_plan__popE), (97, pPSW1E), (98, i__micro_plan__idleE)] [] 1517844491342638470129438826421819271357141255 8) Tryz.f45)

theorem i__micro_plan__fillControl_ok : EntryOk Tryz.prog 45 i__micro_plan__fillControlE := inl_ok (P := Tryz.prog) (n := 1517844491342638470129438826421819271357141255) (k := 8) (l := [(14, i__micro_plan__pushE), (37, i__micro_plan__addE), (38, qPairE), (40, i__micro_plan__operandsE), (65, qBehindE), (94, i__micro_plan__jumpE), (95, qTakenE), (96, i__micro_plan__popE), (97, pPSW1E), (98, i__micro_plan__idleE)]) (ol := []) ⟨i__micro_plan__push_ok, i__micro_plan__add_ok, qPair_ok, i__micro_plan__operands_ok, qBehind_ok, i__micro_plan__jump_ok, qTaken_ok, i__micro_plan__pop_ok, pPSW1_ok, i__micro_plan__idle_ok, trivial⟩ Tryz.func45 rfl (by kernel_rfl) Tryz.call45 trivial

noncomputable def i__micro_plan__fillE : Entry := .tree (evFunc (envX Tryz.prog [(36, qAtE), (37, i__micro_plan__addE), (38, qPairE), (39, qRegE), (40, i__micro_plan__operandsE), (41, qCountedE), (42, i__micro_plan__fillDirectE), (43, pJoin1E), (44, i__micro_plan__wordsE), (45, i__micro_plan__fillControlE)] [] 2854495396045824897803138545268610783927869455 8) Tryz.f15)

theorem i__micro_plan__fill_ok : EntryOk Tryz.prog 15 i__micro_plan__fillE := inl_ok (P := Tryz.prog) (n := 2854495396045824897803138545268610783927869455) (k := 8) (l := [(36, qAtE), (37, i__micro_plan__addE), (38, qPairE), (39, qRegE), (40, i__micro_plan__operandsE), (41, qCountedE), (42, i__micro_plan__fillDirectE), (43, pJoin1E), (44, i__micro_plan__wordsE), (45, i__micro_plan__fillControlE)]) (ol := []) ⟨qAt_ok, i__micro_plan__add_ok, qPair_ok, qReg_ok, i__micro_plan__operands_ok, qCounted_ok, i__micro_plan__fillDirect_ok, pJoin1_ok, i__micro_plan__words_ok, i__micro_plan__fillControl_ok, trivial⟩ Tryz.func15 rfl (by kernel_rfl) Tryz.call15 trivial

abbrev pNextTs : List Sh := [Sh.agg (R.pair (R.int IntKind.i64) (R.pair (R.pair (R.int IntKind.u8) (R.pair (R.int IntKind.u8) (R.pair (R.int IntKind.u8) (R.pair (R.int IntKind.u8) (R.pair (R.int IntKind.u8) (R.pair (R.int IntKind.u8) (R.pair (R.int IntKind.u8) (R.pair (R.pair R.bool (R.pair R.bool (R.pair R.bool (R.pair R.bool (R.pair R.bool (R.pair R.bool R.bool)))))) (R.pair (R.int IntKind.u16) (R.int IntKind.u16)))))))))) (R.pair R.bool (R.pair R.bool (R.pair R.bool (R.pair (R.int IntKind.u8) (R.pair R.bool (R.pair R.bool (R.pair R.bool (R.pair R.bool (R.pair R.bool (R.pair R.bool R.bool)))))))))))), Sh.one (R.int IntKind.i64), Sh.one (R.sl (R.int IntKind.u8))]

abbrev pNextRs : Rs := Rs.tup [Sh.agg (RY), Sh.one R.bool]

noncomputable def pNextL (k : Int) : List (FuncId × Entry) := [(12, imicro_newPlan_pNextE k), (13, pInternalE), (14, i__micro_plan__pushE), (15, i__micro_plan__fillE)]

theorem pNextL_ok (k : Int) : AllOk Tryz.prog (pNextL k) := ⟨(imicro_newPlan_pNext_ok k), pInternal_ok, i__micro_plan__push_ok, i__micro_plan__fill_ok, trivial⟩

noncomputable def i__tstateref14_maker__addE : Entry := .tree (evFunc (envX Tryz.prog [] [] 255 8) Tryz.f46)

theorem i__tstateref14_maker__add_ok : EntryOk Tryz.prog 46 i__tstateref14_maker__addE := inl_ok (P := Tryz.prog) (n := 255) (k := 8) (l := []) (ol := []) trivial Tryz.func46 rfl (by kernel_rfl) Tryz.call46 trivial

noncomputable def i__tstateref14_maker__pushE : Entry := .tree (evFunc (envX Tryz.prog [(46, i__tstateref14_maker__addE)] [] 15 8) Tryz.f17)

theorem i__tstateref14_maker__push_ok : EntryOk Tryz.prog 17 i__tstateref14_maker__pushE := inl_ok (P := Tryz.prog) (n := 15) (k := 8) (l := [(46, i__tstateref14_maker__addE)]) (ol := []) ⟨i__tstateref14_maker__add_ok, trivial⟩ Tryz.func17 rfl (by kernel_rfl) Tryz.call17 trivial

noncomputable def i__tstateref14_maker__operandsE : Entry := .tree (evFunc (envX Tryz.prog [(46, i__tstateref14_maker__addE)] [] 31 8) Tryz.f48)

theorem i__tstateref14_maker__operands_ok : EntryOk Tryz.prog 48 i__tstateref14_maker__operandsE := inl_ok (P := Tryz.prog) (n := 31) (k := 8) (l := [(46, i__tstateref14_maker__addE)]) (ol := []) ⟨i__tstateref14_maker__add_ok, trivial⟩ Tryz.func48 rfl (by kernel_rfl) Tryz.call48 trivial

noncomputable def i__tstateref14_maker__idleE : Entry := .tree (evFunc (envX Tryz.prog [(46, i__tstateref14_maker__addE)] [] 31 8) Tryz.f51)

theorem i__tstateref14_maker__idle_ok : EntryOk Tryz.prog 51 i__tstateref14_maker__idleE := inl_ok (P := Tryz.prog) (n := 31) (k := 8) (l := [(46, i__tstateref14_maker__addE)]) (ol := []) ⟨i__tstateref14_maker__add_ok, trivial⟩ Tryz.func51 rfl (by kernel_rfl) Tryz.call51 trivial

noncomputable def i__tstateref14_maker__targetE : Entry := .tree (evFunc (envX Tryz.prog [(48, i__tstateref14_maker__operandsE), (53, mTakenE), (56, rOnE)] [] 15 8) Tryz.f52)

theorem i__tstateref14_maker__target_ok : EntryOk Tryz.prog 52 i__tstateref14_maker__targetE := inl_ok (P := Tryz.prog) (n := 15) (k := 8) (l := [(48, i__tstateref14_maker__operandsE), (53, mTakenE), (56, rOnE)]) (ol := []) ⟨i__tstateref14_maker__operands_ok, mTaken_ok, rOn_ok, trivial⟩ Tryz.func52 rfl (by kernel_rfl) Tryz.call52 trivial

noncomputable def i__tstateref14_maker__popE : Entry := .tree (evFunc (envX Tryz.prog [(46, i__tstateref14_maker__addE)] [] 3 8) Tryz.f54)

theorem i__tstateref14_maker__pop_ok : EntryOk Tryz.prog 54 i__tstateref14_maker__popE := inl_ok (P := Tryz.prog) (n := 3) (k := 8) (l := [(46, i__tstateref14_maker__addE)]) (ol := []) ⟨i__tstateref14_maker__add_ok, trivial⟩ Tryz.func54 rfl (by kernel_rfl) Tryz.call54 trivial

noncomputable def i__tstateref14_maker__bodyE : Entry := .tree (evFunc (envX Tryz.prog [(17, i__tstateref14_maker__pushE), (27, mAtE), (31, mBehindE), (32, rPair1E), (46, i__tstateref14_maker__addE), (47, rGet1E), (48, i__tstateref14_maker__operandsE), (49, mWordE), (50, rSteppedE), (51, i__tstateref14_maker__idleE), (52, i__tstateref14_maker__targetE), (53, mTakenE), (54, i__tstateref14_maker__popE), (55, rPSW1E), (56, rOnE), (57, rJoinE)] [] 546879438939764547011187383507185256060619065560359097919357232620146805215141852592455017411118079 8) Tryz.f18)

theorem i__tstateref14_maker__body_ok : EntryOk Tryz.prog 18 i__tstateref14_maker__bodyE := inl_ok (P := Tryz.prog) (n := 546879438939764547011187383507185256060619065560359097919357232620146805215141852592455017411118079) (k := 8) (l := [(17, i__tstateref14_maker__pushE), (27, mAtE), (31, mBehindE), (32, rPair1E), (46, i__tstateref14_maker__addE), (47, rGet1E), (48, i__tstateref14_maker__operandsE), (49, mWordE), (50, rSteppedE), (51, i__tstateref14_maker__idleE), (52, i__tstateref14_maker__targetE), (53, mTakenE), (54, i__tstateref14_maker__popE), (55, rPSW1E), (56, rOnE), (57, rJoinE)]) (ol := []) ⟨i__tstateref14_maker__push_ok, mAt_ok, mBehind_ok, rPair1_ok, i__tstateref14_maker__add_ok, rGet1_ok, i__tstateref14_maker__operands_ok, mWord_ok, rStepped_ok, i__tstateref14_maker__idle_ok, i__tstateref14_maker__target_ok, mTaken_ok, i__tstateref14_maker__pop_ok, rPSW1_ok, rOn_ok, rJoin_ok, trivial⟩ Tryz.func18 rfl (by kernel_rfl) Tryz.call18 trivial

abbrev rNextTs : List Sh := [Sh.agg (R.pair (R.int IntKind.i64) (R.pair (R.pair (R.int IntKind.u8) (R.pair (R.int IntKind.u8) (R.pair (R.int IntKind.u8) (R.pair (R.int IntKind.u8) (R.pair (R.int IntKind.u8) (R.pair (R.int IntKind.u8) (R.pair (R.int IntKind.u8) (R.pair (R.pair R.bool (R.pair R.bool (R.pair R.bool (R.pair R.bool (R.pair R.bool (R.pair R.bool R.bool)))))) (R.pair (R.int IntKind.u16) (R.int IntKind.u16)))))))))) (R.pair R.bool (R.pair R.bool (R.pair R.bool (R.pair (R.int IntKind.u8) (R.pair R.bool (R.pair R.bool (R.pair R.bool (R.pair R.bool (R.pair R.bool (R.pair R.bool R.bool)))))))))))), Sh.one (R.int IntKind.i64), Sh.one (R.sl (R.int IntKind.u8))]

abbrev rNextRs : Rs := Rs.tup [Sh.agg (RY), Sh.one R.bool]

noncomputable def rNextL (k : Int) : List (FuncId × Entry) := [(16, rInternalE), (17, i__tstateref14_maker__pushE), (18, i__tstateref14_maker__bodyE), (19, rDecKE k)]

theorem rNextL_ok (k : Int) : AllOk Tryz.prog (rNextL k) := ⟨rInternal_ok, i__tstateref14_maker__push_ok, i__tstateref14_maker__body_ok, (rDecK_ok k), trivial⟩
end
end Go.Proofs.YtiflfdlglncjlaaGreat
