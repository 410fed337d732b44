/-
  Contracts of functions; each found by the symbolic executor and checked by the kernel. Conditions: none.
-/
import Derived.Test.YtiflfdlglncjlaaGreatS3D
import Derived.Test.YtiflfdlglncjlaaGreatProg
import Derived.Test.YtiflfdlglncjlaaGreatMicroL
import Derived.Test.YtiflfdlglncjlaaGreatFinAll
set_option linter.unusedSimpArgs false
open Go Go.S3 Go.Proofs
set_option linter.unusedVariables false
set_option maxRecDepth 100000
namespace Go.Proofs.YtiflfdlglncjlaaGreat
noncomputable section
noncomputable def zkmicro_newPlan_kKnownE (k : Int) : Entry := .tree (evFunc (envX Tryz.prog [(35, pDecKE k), (36, qAtE)] [] 255 8) Tryz.f12)


theorem zkmicro_newPlan_kKnown_ok (k : Int) : EntryOk Tryz.prog 12 (zkmicro_newPlan_kKnownE k) := inl_ok (P := Tryz.prog) (n := 255) (k := 8) (l := [(35, pDecKE k), (36, qAtE)]) (ol := []) ⟨(pDecK_ok k), qAt_ok, trivial⟩ Tryz.func12 rfl (by kernel_rfl) Tryz.call12 trivial


noncomputable def zk__micro_plan__addE : Entry := .tree (evFunc (envX Tryz.prog [] [] 255 8) Tryz.f37)


theorem zk__micro_plan__add_ok : EntryOk Tryz.prog 37 zk__micro_plan__addE := inl_ok (P := Tryz.prog) (n := 255) (k := 8) (l := []) (ol := []) trivial Tryz.func37 rfl (by kernel_rfl) Tryz.call37 trivial


noncomputable def zk__micro_plan__pushE : Entry := .tree (evFunc (envX Tryz.prog [(37, zk__micro_plan__addE)] [] 15 8) Tryz.f14)


theorem zk__micro_plan__push_ok : EntryOk Tryz.prog 14 zk__micro_plan__pushE := inl_ok (P := Tryz.prog) (n := 15) (k := 8) (l := [(37, zk__micro_plan__addE)]) (ol := []) ⟨zk__micro_plan__add_ok, trivial⟩ Tryz.func14 rfl (by kernel_rfl) Tryz.call14 trivial


noncomputable def zk__micro_plan__operandsE : Entry := .tree (evFunc (envX Tryz.prog [(37, zk__micro_plan__addE)] [] 31 8) Tryz.f40)


theorem zk__micro_plan__operands_ok : EntryOk Tryz.prog 40 zk__micro_plan__operandsE := inl_ok (P := Tryz.prog) (n := 31) (k := 8) (l := [(37, zk__micro_plan__addE)]) (ol := []) ⟨zk__micro_plan__add_ok, trivial⟩ Tryz.func40 rfl (by kernel_rfl) Tryz.call40 trivial


noncomputable def zk__micro_plan__wordsE : Entry := .tree (evFunc (envX Tryz.prog [(37, zk__micro_plan__addE)] [] 63 8) Tryz.f44)


theorem zk__micro_plan__words_ok : EntryOk Tryz.prog 44 zk__micro_plan__wordsE := inl_ok (P := Tryz.prog) (n := 63) (k := 8) (l := [(37, zk__micro_plan__addE)]) (ol := []) ⟨zk__micro_plan__add_ok, trivial⟩ Tryz.func44 rfl (by kernel_rfl) Tryz.call44 trivial


noncomputable def zk__micro_plan__fillDirectE : Entry := .tree (evFunc (envX Tryz.prog [(37, zk__micro_plan__addE), (40, zk__micro_plan__operandsE), (44, zk__micro_plan__wordsE), (93, qJoinE)] [] 268570631 8) Tryz.f42)


theorem zk__micro_plan__fillDirect_ok : EntryOk Tryz.prog 42 zk__micro_plan__fillDirectE := inl_ok (P := Tryz.prog) (n := 268570631) (k := 8) (l := [(37, zk__micro_plan__addE), (40, zk__micro_plan__operandsE), (44, zk__micro_plan__wordsE), (93, qJoinE)]) (ol := []) ⟨zk__micro_plan__add_ok, zk__micro_plan__operands_ok, zk__micro_plan__words_ok, qJoin_ok, trivial⟩ Tryz.func42 rfl (by kernel_rfl) Tryz.call42 trivial


noncomputable def zk__micro_plan__jumpE : Entry := .tree (evFunc (envX Tryz.prog [(40, zk__micro_plan__operandsE), (95, qTakenE)] [] 15 8) Tryz.f94)


theorem zk__micro_plan__jump_ok : EntryOk Tryz.prog 94 zk__micro_plan__jumpE := inl_ok (P := Tryz.prog) (n := 15) (k := 8) (l := [(40, zk__micro_plan__operandsE), (95, qTakenE)]) (ol := []) ⟨zk__micro_plan__operands_ok, qTaken_ok, trivial⟩ Tryz.func94 rfl (by kernel_rfl) Tryz.call94 trivial


noncomputable def zk__micro_plan__popE : Entry := .tree (evFunc (envX Tryz.prog [(37, zk__micro_plan__addE)] [] 3 8) Tryz.f96)


theorem zk__micro_plan__pop_ok : EntryOk Tryz.prog 96 zk__micro_plan__popE := inl_ok (P := Tryz.prog) (n := 3) (k := 8) (l := [(37, zk__micro_plan__addE)]) (ol := []) ⟨zk__micro_plan__add_ok, trivial⟩ Tryz.func96 rfl (by kernel_rfl) Tryz.call96 trivial


noncomputable def zk__micro_plan__idleE : Entry := .tree (evFunc (envX Tryz.prog [(37, zk__micro_plan__addE)] [] 15 8) Tryz.f98)


theorem zk__micro_plan__idle_ok : EntryOk Tryz.prog 98 zk__micro_plan__idleE := inl_ok (P := Tryz.prog) (n := 15) (k := 8) (l := [(37, zk__micro_plan__addE)]) (ol := []) ⟨zk__micro_plan__add_ok, trivial⟩ Tryz.func98 rfl (by kernel_rfl) Tryz.call98 trivial


noncomputable def zk__micro_plan__fillControlE : Entry := .tree (evFunc (envX Tryz.prog [(14, zk__micro_plan__pushE), (37, zk__micro_plan__addE), (38, qPairE), (40, zk__micro_plan__operandsE), (65, qBehindE), (94, zk__micro_plan__jumpE), (95, qTakenE), (96, zk__micro_plan__popE), (97, pPSW1E), (98, zk__micro_plan__idleE)] [] 1517844491342638470129438826421819271357141255 8) Tryz.f45)


theorem zk__micro_plan__fillControl_ok : EntryOk Tryz.prog 45 zk__micro_plan__fillControlE := inl_ok (P := Tryz.prog) (n := 1517844491342638470129438826421819271357141255) (k := 8) (l := [(14, zk__micro_plan__pushE), (37, zk__micro_plan__addE), (38, qPairE), (40, zk__micro_plan__operandsE), (65, qBehindE), (94, zk__micro_plan__jumpE), (95, qTakenE), (96, zk__micro_plan__popE), (97, pPSW1E), (98, zk__micro_plan__idleE)]) (ol := []) ⟨zk__micro_plan__push_ok, zk__micro_plan__add_ok, qPair_ok, zk__micro_plan__operands_ok, qBehind_ok, zk__micro_plan__jump_ok, qTaken_ok, zk__micro_plan__pop_ok, pPSW1_ok, zk__micro_plan__idle_ok, trivial⟩ Tryz.func45 rfl (by kernel_rfl) Tryz.call45 trivial


noncomputable def zk__micro_plan__fillE : Entry := .tree (evFunc (envX Tryz.prog [(36, qAtE), (37, zk__micro_plan__addE), (38, qPairE), (39, qRegE), (40, zk__micro_plan__operandsE), (41, qCountedE), (42, zk__micro_plan__fillDirectE), (43, pJoin1E), (44, zk__micro_plan__wordsE), (45, zk__micro_plan__fillControlE)] [] 2854495396045824897803138545268610783927869455 8) Tryz.f15)


theorem zk__micro_plan__fill_ok : EntryOk Tryz.prog 15 zk__micro_plan__fillE := inl_ok (P := Tryz.prog) (n := 2854495396045824897803138545268610783927869455) (k := 8) (l := [(36, qAtE), (37, zk__micro_plan__addE), (38, qPairE), (39, qRegE), (40, zk__micro_plan__operandsE), (41, qCountedE), (42, zk__micro_plan__fillDirectE), (43, pJoin1E), (44, zk__micro_plan__wordsE), (45, zk__micro_plan__fillControlE)]) (ol := []) ⟨qAt_ok, zk__micro_plan__add_ok, qPair_ok, qReg_ok, zk__micro_plan__operands_ok, qCounted_ok, zk__micro_plan__fillDirect_ok, pJoin1_ok, zk__micro_plan__words_ok, zk__micro_plan__fillControl_ok, trivial⟩ Tryz.func15 rfl (by kernel_rfl) Tryz.call15 trivial


noncomputable def zkmicro_Next_kKnownE (k : Int) : Entry := .tree (evFunc (envX Tryz.prog [(12, zkmicro_newPlan_kKnownE k), (13, pInternalE), (14, zk__micro_plan__pushE), (15, zk__micro_plan__fillE)] [] 1125900980585471 8) Tryz.f6)


theorem zkmicro_Next_kKnown_ok (k : Int) : EntryOk Tryz.prog 6 (zkmicro_Next_kKnownE k) := inl_ok (P := Tryz.prog) (n := 1125900980585471) (k := 8) (l := [(12, zkmicro_newPlan_kKnownE k), (13, pInternalE), (14, zk__micro_plan__pushE), (15, zk__micro_plan__fillE)]) (ol := []) ⟨(zkmicro_newPlan_kKnown_ok k), pInternal_ok, zk__micro_plan__push_ok, zk__micro_plan__fill_ok, trivial⟩ Tryz.func6 rfl (by kernel_rfl) Tryz.call6 trivial


abbrev kKnownTs : List Sh := []

abbrev kKnownRs : Rs := Rs.one (Sh.one R.bool)

noncomputable def kKnownL (k : Int) : List (FuncId × Entry) := [(6, zkmicro_Next_kKnownE k), (9, pFinE), (11, pFirstE)]


theorem kKnownL_ok (k : Int) : AllOk Tryz.prog (kKnownL k) := ⟨(zkmicro_Next_kKnown_ok k), pFin_ok, pFirst_ok, trivial⟩


noncomputable def kKnown_25T : RT (Option (Bool)) :=
  let x1 : TC := (1, (0, 0, 0, 0, 0, 0, 0, (false, false, false, false, false, false, false), 256, 5), false, false, false, 0, false, false, false, false, false, false, false)
  let x2 : TI × List TY := ((0, 0, 0, 0, 0, 0, 0, 0), [])
  let x3 : TC × Bool × List Int × TI × List TY := (x1, 0 == 5, [205, 52, 18], x2)
  let x4 : Bool := qAtC x3 0
  let x5 : Int × Int × Int × Int × Int × Int × Int × Int := rDecode 1 (qAt x3 0)
  let x6 : Bool := !x4 || x5.1 == 25
  let x7 : Bool := !x6
  let x8 : Bool := x7 || x4
  let x9 : Bool := !x8
  let x10 : Int × Int × Int × Int × Int × Int × Int × Int := (25, x5.2)
  let x11 : List TY := [] ++ [(1, 5, 0, 4)] ++ [(2, IntKind.u16.wrap (5 + IntKind.u16.wrap 1), 0, 3)] ++ [(2, IntKind.u16.wrap (5 + IntKind.u16.wrap (IntKind.i64.wrap (1 + 1))), 0, 3)]
  let x12 : Int := qBehind (x1, 0 == 5, [205, 52, 18], x10, x11)
  let x13 : Nat := List.length (bif qTaken (x1, 0 == 5, [205, 52, 18], x10, [] ++ [(1, 5, 0, 4)]) then x11 ++ [(5, IntKind.u16.wrap (256 - 1), IntKind.u8.wrap (shrI IntKind.u16 x12 8), 3)] ++ [(5, IntKind.u16.wrap (256 - 2), IntKind.u8.wrap x12, 3)] else x11)
  let x14 : Bool := decide (iN (List.length [205, 52, 18]) ≥ iN x13)
  let x15 : TC × Bool × List Int × TI × List TY := (x1, 5 == 5, [205, 52, 18, 0], x2)
  let x16 : Bool := qAtC x15 0
  let x17 : Int × Int × Int × Int × Int × Int × Int × Int := rDecode 1 (qAt x15 0)
  let x18 : Bool := !x16 || x17.1 == 25
  let x19 : Bool := !x18
  let x20 : Bool := x19 || x16
  let x21 : Bool := !x20
  let x22 : Int × Int × Int × Int × Int × Int × Int × Int := (25, x17.2)
  let x23 : List TY := [] ++ [(1, 5, 0, 4)] ++ [(9, 5, 0, 3)] ++ [(9, 5, 0, 3)]
  let x24 : Int := qBehind (x1, 5 == 5, [205, 52, 18, 0], x22, x23)
  let x25 : Nat := List.length (bif qTaken (x1, 5 == 5, [205, 52, 18, 0], x22, [] ++ [(1, 5, 0, 4)]) then x23 ++ [(5, IntKind.u16.wrap (256 - 1), IntKind.u8.wrap (shrI IntKind.u16 x24 8), 3)] ++ [(5, IntKind.u16.wrap (256 - 2), IntKind.u8.wrap x24, 3)] else x23)
  let x26 : Bool := decide (iN (List.length [205, 52, 18, 0]) ≥ iN x25)
  let x27 : Bool := x21 || (x19 || (pInternal 5 || (x26 || inRng (iN (List.length [205, 52, 18, 0])) x25)))
  let x28 : Bool := x21 || x18
  .br (x9 || (x7 || (pInternal 0 || (x14 || inRng (iN (List.length [205, 52, 18])) x13))))
  (.br (x9 || x6)
   (.br (x8)
    (.br (pInternal 0)
     (.br (x27)
      (.br (x28)
       (.br (x20)
        (.br (pInternal 5)
         (.leaf (some (false)))
         (.br (x26)
          (.leaf (some (false)))
          (.leaf (some (false)))))
        (.leaf none))
       (.leaf none))
      (.leaf none))
     (.br (x14)
      (.br (x27)
       (.br (x28)
        (.br (x20)
         (.br (pInternal 5)
          (.leaf (some (false)))
          (.br (x26)
           (.leaf (some (false)))
           (.leaf (some (false)))))
         (.leaf none))
        (.leaf none))
       (.leaf none))
      (.br (x27)
       (.br (x28)
        (.br (x20)
         (.br (pInternal 5)
          (.leaf (some (false)))
          (.br (x26)
           (.leaf (some (false)))
           (.leaf (some (true)))))
         (.leaf none))
        (.leaf none))
       (.leaf none))))
    (.leaf none))
   (.leaf none))
  (.leaf none)

noncomputable def kKnown_25 : Bool := getO kKnownRs.dflt (kKnown_25T ).val

noncomputable def kKnown_25C : Bool := okB (kKnown_25T ).val

theorem kKnown_25_ev (a : HL kKnownTs) : evVal (envX Tryz.prog (kKnownL 25) [] 127 8) Tryz.f5 kKnownTs kKnownRs a = kKnown_25T  := by kernel_rfl

end
end Go.Proofs.YtiflfdlglncjlaaGreat
