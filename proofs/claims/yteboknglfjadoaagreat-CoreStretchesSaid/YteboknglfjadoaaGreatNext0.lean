/-
  Contracts of functions; each found by the symbolic executor and checked by the kernel. Conditions: none.
-/
import Derived.Test.YteboknglfjadoaaGreatS3D
import Derived.Test.YteboknglfjadoaaGreatProg
import Derived.Test.YteboknglfjadoaaGreatMicroL
set_option linter.unusedSimpArgs false
open Go Go.S3 Go.Proofs
set_option linter.unusedVariables false
set_option maxRecDepth 100000
namespace Go.Proofs.YteboknglfjadoaaGreat
noncomputable section
noncomputable def imicro_newPlan_pNextE (k : Int) : Entry := .tree (evFunc (envX Tryz.prog [(178, pDecKE k), (210, qAtE)] [] 255 8) Tryz.f172)

theorem imicro_newPlan_pNext_ok (k : Int) : EntryOk Tryz.prog 172 (imicro_newPlan_pNextE k) := inl_ok (P := Tryz.prog) (n := 255) (k := 8) (l := [(178, pDecKE k), (210, qAtE)]) (ol := []) ⟨(pDecK_ok k), qAt_ok, trivial⟩ Tryz.func172 rfl (by kernel_rfl) Tryz.call172 trivial

noncomputable def i__micro_plan__addE : Entry := .tree (evFunc (envX Tryz.prog [] [] 255 8) Tryz.f211)

theorem i__micro_plan__add_ok : EntryOk Tryz.prog 211 i__micro_plan__addE := inl_ok (P := Tryz.prog) (n := 255) (k := 8) (l := []) (ol := []) trivial Tryz.func211 rfl (by kernel_rfl) Tryz.call211 trivial

noncomputable def i__micro_plan__pushE : Entry := .tree (evFunc (envX Tryz.prog [(211, i__micro_plan__addE)] [] 15 8) Tryz.f174)

theorem i__micro_plan__push_ok : EntryOk Tryz.prog 174 i__micro_plan__pushE := inl_ok (P := Tryz.prog) (n := 15) (k := 8) (l := [(211, i__micro_plan__addE)]) (ol := []) ⟨i__micro_plan__add_ok, trivial⟩ Tryz.func174 rfl (by kernel_rfl) Tryz.call174 trivial

noncomputable def i__micro_plan__operandsE : Entry := .tree (evFunc (envX Tryz.prog [(211, i__micro_plan__addE)] [] 31 8) Tryz.f214)

theorem i__micro_plan__operands_ok : EntryOk Tryz.prog 214 i__micro_plan__operandsE := inl_ok (P := Tryz.prog) (n := 31) (k := 8) (l := [(211, i__micro_plan__addE)]) (ol := []) ⟨i__micro_plan__add_ok, trivial⟩ Tryz.func214 rfl (by kernel_rfl) Tryz.call214 trivial

noncomputable def i__micro_plan__wordsE : Entry := .tree (evFunc (envX Tryz.prog [(211, i__micro_plan__addE)] [] 63 8) Tryz.f218)

theorem i__micro_plan__words_ok : EntryOk Tryz.prog 218 i__micro_plan__wordsE := inl_ok (P := Tryz.prog) (n := 63) (k := 8) (l := [(211, i__micro_plan__addE)]) (ol := []) ⟨i__micro_plan__add_ok, trivial⟩ Tryz.func218 rfl (by kernel_rfl) Tryz.call218 trivial

noncomputable def i__micro_plan__fillDirectE : Entry := .tree (evFunc (envX Tryz.prog [(211, i__micro_plan__addE), (214, i__micro_plan__operandsE), (218, i__micro_plan__wordsE), (252, qJoinE)] [] 268570631 8) Tryz.f216)

theorem i__micro_plan__fillDirect_ok : EntryOk Tryz.prog 216 i__micro_plan__fillDirectE := inl_ok (P := Tryz.prog) (n := 268570631) (k := 8) (l := [(211, i__micro_plan__addE), (214, i__micro_plan__operandsE), (218, i__micro_plan__wordsE), (252, qJoinE)]) (ol := []) ⟨i__micro_plan__add_ok, i__micro_plan__operands_ok, i__micro_plan__words_ok, qJoin_ok, trivial⟩ Tryz.func216 rfl (by kernel_rfl) Tryz.call216 trivial

noncomputable def i__micro_plan__jumpE : Entry := .tree (evFunc (envX Tryz.prog [(214, i__micro_plan__operandsE), (254, qTakenE)] [] 15 8) Tryz.f253)

theorem i__micro_plan__jump_ok : EntryOk Tryz.prog 253 i__micro_plan__jumpE := inl_ok (P := Tryz.prog) (n := 15) (k := 8) (l := [(214, i__micro_plan__operandsE), (254, qTakenE)]) (ol := []) ⟨i__micro_plan__operands_ok, qTaken_ok, trivial⟩ Tryz.func253 rfl (by kernel_rfl) Tryz.call253 trivial

noncomputable def i__micro_plan__popE : Entry := .tree (evFunc (envX Tryz.prog [(211, i__micro_plan__addE)] [] 3 8) Tryz.f255)

theorem i__micro_plan__pop_ok : EntryOk Tryz.prog 255 i__micro_plan__popE := inl_ok (P := Tryz.prog) (n := 3) (k := 8) (l := [(211, i__micro_plan__addE)]) (ol := []) ⟨i__micro_plan__add_ok, trivial⟩ Tryz.func255 rfl (by kernel_rfl) Tryz.call255 trivial

noncomputable def i__micro_plan__idleE : Entry := .tree (evFunc (envX Tryz.prog [(211, i__micro_plan__addE)] [] 15 8) Tryz.f257)

theorem i__micro_plan__idle_ok : EntryOk Tryz.prog 257 i__micro_plan__idleE := inl_ok (P := Tryz.prog) (n := 15) (k := 8) (l := [(211, i__micro_plan__addE)]) (ol := []) ⟨i__micro_plan__add_ok, trivial⟩ Tryz.func257 rfl (by kernel_rfl) Tryz.call257 trivial

noncomputable def i__micro_plan__fillControlE : Entry := .tree (evFunc (envX Tryz.prog [(174, i__micro_plan__pushE), (211, i__micro_plan__addE), (212, qPairE), (214, i__micro_plan__operandsE), (238, qBehindE), (253, i__micro_plan__jumpE), (254, qTakenE), (255, i__micro_plan__popE), (256, pPSW1E), (257, i__micro_plan__idleE)] [] 1517844491342638470129438826421819271357141255 8) Tryz.f219)

theorem i__micro_plan__fillControl_ok : EntryOk Tryz.prog 219 i__micro_plan__fillControlE := inl_ok (P := Tryz.prog) (n := 1517844491342638470129438826421819271357141255) (k := 8) (l := [(174, i__micro_plan__pushE), (211, i__micro_plan__addE), (212, qPairE), (214, i__micro_plan__operandsE), (238, qBehindE), (253, i__micro_plan__jumpE), (254, qTakenE), (255, i__micro_plan__popE), (256, pPSW1E), (257, i__micro_plan__idleE)]) (ol := []) ⟨i__micro_plan__push_ok, i__micro_plan__add_ok, qPair_ok, i__micro_plan__operands_ok, qBehind_ok, i__micro_plan__jump_ok, qTaken_ok, i__micro_plan__pop_ok, pPSW1_ok, i__micro_plan__idle_ok, trivial⟩ Tryz.func219 rfl (by kernel_rfl) Tryz.call219 trivial

noncomputable def i__micro_plan__fillE : Entry := .tree (evFunc (envX Tryz.prog [(210, qAtE), (211, i__micro_plan__addE), (212, qPairE), (213, qRegE), (214, i__micro_plan__operandsE), (215, qCountedE), (216, i__micro_plan__fillDirectE), (217, pJoin1E), (218, i__micro_plan__wordsE), (219, i__micro_plan__fillControlE)] [] 2854495396045824897803138545268610783927869455 8) Tryz.f175)

theorem i__micro_plan__fill_ok : EntryOk Tryz.prog 175 i__micro_plan__fillE := inl_ok (P := Tryz.prog) (n := 2854495396045824897803138545268610783927869455) (k := 8) (l := [(210, qAtE), (211, i__micro_plan__addE), (212, qPairE), (213, qRegE), (214, i__micro_plan__operandsE), (215, qCountedE), (216, i__micro_plan__fillDirectE), (217, pJoin1E), (218, i__micro_plan__wordsE), (219, i__micro_plan__fillControlE)]) (ol := []) ⟨qAt_ok, i__micro_plan__add_ok, qPair_ok, qReg_ok, i__micro_plan__operands_ok, qCounted_ok, i__micro_plan__fillDirect_ok, pJoin1_ok, i__micro_plan__words_ok, i__micro_plan__fillControl_ok, trivial⟩ Tryz.func175 rfl (by kernel_rfl) Tryz.call175 trivial

abbrev pNextTs : List Sh := [Sh.agg (R.pair (R.int IntKind.i64) (R.pair (R.pair (R.int IntKind.u8) (R.pair (R.int IntKind.u8) (R.pair (R.int IntKind.u8) (R.pair (R.int IntKind.u8) (R.pair (R.int IntKind.u8) (R.pair (R.int IntKind.u8) (R.pair (R.int IntKind.u8) (R.pair (R.pair R.bool (R.pair R.bool (R.pair R.bool (R.pair R.bool (R.pair R.bool (R.pair R.bool R.bool)))))) (R.pair (R.int IntKind.u16) (R.int IntKind.u16)))))))))) (R.pair R.bool (R.pair R.bool (R.pair R.bool (R.pair (R.int IntKind.u8) (R.pair R.bool (R.pair R.bool (R.pair R.bool (R.pair R.bool (R.pair R.bool (R.pair R.bool R.bool)))))))))))), Sh.one (R.int IntKind.i64), Sh.one (R.sl (R.int IntKind.u8))]

abbrev pNextRs : Rs := Rs.tup [Sh.agg (RY), Sh.one R.bool]

noncomputable def pNextL (k : Int) : List (FuncId × Entry) := [(172, imicro_newPlan_pNextE k), (173, pInternalE), (174, i__micro_plan__pushE), (175, i__micro_plan__fillE)]

theorem pNextL_ok (k : Int) : AllOk Tryz.prog (pNextL k) := ⟨(imicro_newPlan_pNext_ok k), pInternal_ok, i__micro_plan__push_ok, i__micro_plan__fill_ok, trivial⟩

noncomputable def i__tstateref14_maker__addE : Entry := .tree (evFunc (envX Tryz.prog [] [] 255 8) Tryz.f109)

theorem i__tstateref14_maker__add_ok : EntryOk Tryz.prog 109 i__tstateref14_maker__addE := inl_ok (P := Tryz.prog) (n := 255) (k := 8) (l := []) (ol := []) trivial Tryz.func109 rfl (by kernel_rfl) Tryz.call109 trivial

noncomputable def i__tstateref14_maker__pushE : Entry := .tree (evFunc (envX Tryz.prog [(109, i__tstateref14_maker__addE)] [] 15 8) Tryz.f60)

theorem i__tstateref14_maker__push_ok : EntryOk Tryz.prog 60 i__tstateref14_maker__pushE := inl_ok (P := Tryz.prog) (n := 15) (k := 8) (l := [(109, i__tstateref14_maker__addE)]) (ol := []) ⟨i__tstateref14_maker__add_ok, trivial⟩ Tryz.func60 rfl (by kernel_rfl) Tryz.call60 trivial

noncomputable def i__tstateref14_maker__operandsE : Entry := .tree (evFunc (envX Tryz.prog [(109, i__tstateref14_maker__addE)] [] 31 8) Tryz.f111)

theorem i__tstateref14_maker__operands_ok : EntryOk Tryz.prog 111 i__tstateref14_maker__operandsE := inl_ok (P := Tryz.prog) (n := 31) (k := 8) (l := [(109, i__tstateref14_maker__addE)]) (ol := []) ⟨i__tstateref14_maker__add_ok, trivial⟩ Tryz.func111 rfl (by kernel_rfl) Tryz.call111 trivial

noncomputable def i__tstateref14_maker__idleE : Entry := .tree (evFunc (envX Tryz.prog [(109, i__tstateref14_maker__addE)] [] 31 8) Tryz.f114)

theorem i__tstateref14_maker__idle_ok : EntryOk Tryz.prog 114 i__tstateref14_maker__idleE := inl_ok (P := Tryz.prog) (n := 31) (k := 8) (l := [(109, i__tstateref14_maker__addE)]) (ol := []) ⟨i__tstateref14_maker__add_ok, trivial⟩ Tryz.func114 rfl (by kernel_rfl) Tryz.call114 trivial

noncomputable def i__tstateref14_maker__targetE : Entry := .tree (evFunc (envX Tryz.prog [(68, rOnE), (111, i__tstateref14_maker__operandsE), (116, mTakenE)] [] 15 8) Tryz.f115)

theorem i__tstateref14_maker__target_ok : EntryOk Tryz.prog 115 i__tstateref14_maker__targetE := inl_ok (P := Tryz.prog) (n := 15) (k := 8) (l := [(68, rOnE), (111, i__tstateref14_maker__operandsE), (116, mTakenE)]) (ol := []) ⟨rOn_ok, i__tstateref14_maker__operands_ok, mTaken_ok, trivial⟩ Tryz.func115 rfl (by kernel_rfl) Tryz.call115 trivial

noncomputable def i__tstateref14_maker__popE : Entry := .tree (evFunc (envX Tryz.prog [(109, i__tstateref14_maker__addE)] [] 3 8) Tryz.f117)

theorem i__tstateref14_maker__pop_ok : EntryOk Tryz.prog 117 i__tstateref14_maker__popE := inl_ok (P := Tryz.prog) (n := 3) (k := 8) (l := [(109, i__tstateref14_maker__addE)]) (ol := []) ⟨i__tstateref14_maker__add_ok, trivial⟩ Tryz.func117 rfl (by kernel_rfl) Tryz.call117 trivial

noncomputable def i__tstateref14_maker__bodyE : Entry := .tree (evFunc (envX Tryz.prog [(60, i__tstateref14_maker__pushE), (68, rOnE), (72, mAtE), (76, mBehindE), (77, rPair1E), (109, i__tstateref14_maker__addE), (110, rGet1E), (111, i__tstateref14_maker__operandsE), (112, mWordE), (113, rSteppedE), (114, i__tstateref14_maker__idleE), (115, i__tstateref14_maker__targetE), (116, mTakenE), (117, i__tstateref14_maker__popE), (118, rPSW1E), (119, rJoinE)] [] 546879438939764547011187383507185256060619065560359097919357232620146805215141852592455017411118079 8) Tryz.f61)

theorem i__tstateref14_maker__body_ok : EntryOk Tryz.prog 61 i__tstateref14_maker__bodyE := inl_ok (P := Tryz.prog) (n := 546879438939764547011187383507185256060619065560359097919357232620146805215141852592455017411118079) (k := 8) (l := [(60, i__tstateref14_maker__pushE), (68, rOnE), (72, mAtE), (76, mBehindE), (77, rPair1E), (109, i__tstateref14_maker__addE), (110, rGet1E), (111, i__tstateref14_maker__operandsE), (112, mWordE), (113, rSteppedE), (114, i__tstateref14_maker__idleE), (115, i__tstateref14_maker__targetE), (116, mTakenE), (117, i__tstateref14_maker__popE), (118, rPSW1E), (119, rJoinE)]) (ol := []) ⟨i__tstateref14_maker__push_ok, rOn_ok, mAt_ok, mBehind_ok, rPair1_ok, i__tstateref14_maker__add_ok, rGet1_ok, i__tstateref14_maker__operands_ok, mWord_ok, rStepped_ok, i__tstateref14_maker__idle_ok, i__tstateref14_maker__target_ok, mTaken_ok, i__tstateref14_maker__pop_ok, rPSW1_ok, rJoin_ok, trivial⟩ Tryz.func61 rfl (by kernel_rfl) Tryz.call61 trivial

abbrev rNextTs : List Sh := [Sh.agg (R.pair (R.int IntKind.i64) (R.pair (R.pair (R.int IntKind.u8) (R.pair (R.int IntKind.u8) (R.pair (R.int IntKind.u8) (R.pair (R.int IntKind.u8) (R.pair (R.int IntKind.u8) (R.pair (R.int IntKind.u8) (R.pair (R.int IntKind.u8) (R.pair (R.pair R.bool (R.pair R.bool (R.pair R.bool (R.pair R.bool (R.pair R.bool (R.pair R.bool R.bool)))))) (R.pair (R.int IntKind.u16) (R.int IntKind.u16)))))))))) (R.pair R.bool (R.pair R.bool (R.pair R.bool (R.pair (R.int IntKind.u8) (R.pair R.bool (R.pair R.bool (R.pair R.bool (R.pair R.bool (R.pair R.bool (R.pair R.bool R.bool)))))))))))), Sh.one (R.int IntKind.i64), Sh.one (R.sl (R.int IntKind.u8))]

abbrev rNextRs : Rs := Rs.tup [Sh.agg (RY), Sh.one R.bool]

noncomputable def rNextL (k : Int) : List (FuncId × Entry) := [(25, rDecKE k), (59, rInternalE), (60, i__tstateref14_maker__pushE), (61, i__tstateref14_maker__bodyE)]

theorem rNextL_ok (k : Int) : AllOk Tryz.prog (rNextL k) := ⟨(rDecK_ok k), rInternal_ok, i__tstateref14_maker__push_ok, i__tstateref14_maker__body_ok, trivial⟩
end
end Go.Proofs.YteboknglfjadoaaGreat
