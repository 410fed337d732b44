/-
  Contracts of functions; each found by the symbolic executor and checked by the kernel. Conditions: none.
-/
import Derived.Test.YtiflfdlglncjlaaS3D
import Derived.Test.YtiflfdlglncjlaaProg
import Derived.Test.YtiflfdlglncjlaaCyc4
import Derived.Test.YtiflfdlglncjlaaMakeOk
set_option linter.unusedSimpArgs false
open Go Go.S3 Go.Proofs
set_option linter.unusedVariables false
set_option maxRecDepth 100000
namespace Go.Proofs.Ytiflfdlglncjlaa
noncomputable section
noncomputable def itstatemake_FromE : Entry := .tree (evFunc (envX Try.prog [] [] 7 8) Try.f20)

theorem itstatemake_From_ok : EntryOk Try.prog 20 itstatemake_FromE := inl_ok (P := Try.prog) (n := 7) (k := 8) (l := []) (ol := []) trivial Try.func20 rfl (by kernel_rfl) Try.call20 trivial

abbrev lCycMicroTs : List Sh := [Sh.one (R.sl (R.int IntKind.i64)), Sh.one (R.int IntKind.u8)]

abbrev lCycMicroRs : Rs := Rs.one (Sh.one R.bool)

def lCycMicroL0c : LS := { n := 107, slots := [(1, .code (Sh.one (R.int IntKind.u8))), (4, .code (Sh.one R.bool)), (5, .fix (A.loc 0 0)), (6, .fix (A.loc 1 0)), (8, .code (Sh.one (R.sl (RY)))), (9, .tip 0), (40, .code (Sh.one (R.int IntKind.i64))), (41, .code (Sh.one (R.int IntKind.i64)))], boxes := [[.code (.sl (R.int IntKind.i64)), .code (.int IntKind.i64)], [.many (R.pair (R.int IntKind.i64) (R.pair (R.pair (R.int IntKind.u8) (R.pair (R.int IntKind.u8) (R.pair (R.int IntKind.u8) (R.pair (R.int IntKind.u8) (R.pair (R.int IntKind.u8) (R.pair (R.int IntKind.u8) (R.pair (R.int IntKind.u8) (R.pair (R.pair R.bool (R.pair R.bool (R.pair R.bool (R.pair R.bool (R.pair R.bool (R.pair R.bool R.bool)))))) (R.pair (R.int IntKind.u16) (R.int IntKind.u16)))))))))) (R.pair R.bool (R.pair R.bool (R.pair R.bool (R.pair (R.int IntKind.u8) (R.pair R.bool (R.pair R.bool (R.pair R.bool (R.pair R.bool (R.pair R.bool (R.pair R.bool R.bool))))))))))))]], stgs := [⟨R.int IntKind.u8, 5, true⟩] }

noncomputable def lCycMicroL0T (a : Int × Bool × List TY × Int × Int × List Int × Int × TC × List Int × PUnit) : RT (Option (Go1 (Int × Bool × List TY × Int × Int × List Int × Int × TC × List Int × PUnit))) :=
  let x1 : Int × Int × Int × Int := R.get (RY) a.2.2.1 0
  let x2 : Bool := x1.1 != 1
  let x3 : Bool := !a.2.2.2.2.1 == 0 || (!inRng 0 (List.length a.2.2.1) || (x2 || inRng 0 (List.length a.2.2.1)))
  let x4 : List Int × Int × TC × List Int × PUnit := (a.2.2.2.2.2.1, a.2.2.2.2.2.2.1, a.2.2.2.2.2.2.2.1, a.2.2.2.2.2.2.2.2.1, PUnit.unit)
  let x5 : List TY × Int × Int × List Int × Int × TC × List Int × PUnit := (a.2.2.1, a.2.2.2.1, a.2.2.2.2.1, x4)
  let x6 : TY × Bool := nextX a.2.2.2.2.2.2.2.1 0 a.2.2.2.2.2.2.2.2.1
  let x7 : Bool := !x6.2
  let x8 : Int × Int × Int × Int := x6.1
  let x9 : Int × Int × Int × Int := R.get (RY) a.2.2.1 a.2.2.2.2.1
  let x10 : Bool := x8.1 != x9.1
  let x11 : Bool := x7 || (!inRng a.2.2.2.2.1 (List.length a.2.2.1) || (x10 || inRng a.2.2.2.2.1 (List.length a.2.2.1)))
  let x12 : Bool := !x11
  let x13 : Bool := x7 || inRng a.2.2.2.2.1 (List.length a.2.2.1)
  let x14 : Bool := !x13
  let x15 : Bool := x7 || (x10 || x8.2.2.2 != x9.2.2.2)
  let x16 : List Int × Int := (a.2.2.2.2.2.1, a.2.2.2.2.2.2.1)
  let x17 : Bool := nByteC x16
  let x18 : Int × List Int × Int := nByte x16
  let x19 : List Int := a.2.2.2.2.2.2.2.2.1 ++ [x18.1]
  let x20 : Bool := !x17 || Nat.ble (List.length x19) most
  let x21 : List Int × Int := x18.2
  .br (decide (a.2.2.2.2.1 < a.2.2.2.1))
  (.br (!x3 || (!a.2.2.2.2.1 == 0 || inRng 0 (List.length a.2.2.1)))
   (.br (x3)
    (.br (a.2.2.2.2.1 == 0)
     (.br (x2 || x1.2.2.2 != rFirst a.2.2.2.2.2.2.2.1.1 a.1)
      (.leaf (some (Go1.ret (a.1, false, x5))))
      (.leaf (some (Go1.cont (a.1, a.2.1, a.2.2.1, a.2.2.2.1, IntKind.i64.wrap (a.2.2.2.2.1 + 1), x4)))))
     (.br (x12 || (x14 || (x15 || (!x20 || x17))))
      (.br (x12 || (x14 || (x15 || x20)))
       (.br (x12 || x13)
        (.br (x11)
         (.br (x15)
          (.leaf (some (Go1.ret (a.1, false, x5))))
          (.leaf (some (Go1.cont (a.1, a.2.1, a.2.2.1, a.2.2.2.1, IntKind.i64.wrap (a.2.2.2.2.1 + 1), x21.1, x21.2, a.2.2.2.2.2.2.2.1, x19, PUnit.unit)))))
         (.leaf none))
        (.leaf none))
       (.leaf none))
      (.leaf none)))
    (.leaf none))
   (.leaf none))
  (.leaf (some (Go1.brk (a.1, a.2.1, x5))))

noncomputable def lCycMicroL0O : Ora := loopE true lCycMicroL0c lCycMicroL0T (fun a => 8)

theorem lCycMicroL0_ok : OraOk (envX Try.prog [(13, cKinds1E), (15, lKnownE), (20, itstatemake_FromE), (21, nCPUE), (22, rHoldsE), (23, rDecode1E), (24, pFirst1E), (25, pNextE), (26, nByteE)] [] 32767 108) (.block 0 (.loop (bodyIn Try.f6.body 0))) lCycMicroL0O :=
  loop_part (envX_ok (l := [(13, cKinds1E), (15, lKnownE), (20, itstatemake_FromE), (21, nCPUE), (22, rHoldsE), (23, rDecode1E), (24, pFirst1E), (25, pNextE), (26, nByteE)]) ⟨cKinds1_ok, lKnown_ok, itstatemake_From_ok, nCPU_ok, rHolds_ok, rDecode1_ok, pFirst1_ok, pNext_ok, nByte_ok, trivial⟩ [] 32767 108) (loopsOk_bare (by kernel_rfl)) (fun a => by kernel_rfl)

noncomputable def lCycMicroT (n : List Int) (op : Int) : RT (Option (Bool)) :=
  let x1 : List TY := rKinds (nCPU (n, 0)).1.1 op (rHolds (rDecode (nCPU (n, 0)).1.1 op).2.2.2.2.2.2.1 (nCPU (n, 0)).1.2.1.2.2.2.2.2.2.2.1)
  let x2 : Int × Bool × List TY × Int × Int × List Int × Int × TC × List Int × PUnit := (op, false, x1, iN (List.length x1), 0, (nCPU (n, 0)).2.1, (nCPU (n, 0)).2.2, (nCPU (n, 0)).1, [op], ())
  let x3 : Option (Bool × Int × Bool × List TY × Int × Int × List Int × Int × TC × List Int × PUnit) := runF true lCycMicroL0T (fun a => 8) x2
  let x4 : Bool × Int × Bool × List TY × Int × Int × List Int × Int × TC × List Int × PUnit := getO (false, x2) x3
  let x5 : Bool × List TY × Int × Int × List Int × Int × TC × List Int × PUnit := x4.2.2
  let x6 : TC × List Int × PUnit := x5.2.2.2.2.2.2
  .br (decide (iN (List.length n) > 60))
  (.leaf (some (true)))
  (.br (nCPUC (n, 0))
   (.br (okB x3)
    (.br x4.1
     (.leaf (some x5.1))
     (.leaf (some (!(nextX x6.1 0 x6.2.1).2 && lKnown))))
    (.leaf none))
   (.leaf none))

noncomputable def lCycMicro (n : List Int) (op : Int) : Bool := getO lCycMicroRs.dflt (lCycMicroT n op).val

noncomputable def lCycMicroC (n : List Int) (op : Int) : Bool := okB (lCycMicroT n op).val

noncomputable def lCycMicroE : Entry := pureE lCycMicroTs lCycMicroRs (fun a => some (lCycMicroC a.1 a.2)) (fun a => lCycMicro a.1 a.2)

theorem lCycMicro_ok : EntryOk Try.prog 6 lCycMicroE :=
  pure_part (P := Try.prog) (n := 32767) (k := 108) (l := [(13, cKinds1E), (15, lKnownE), (20, itstatemake_FromE), (21, nCPUE), (22, rHoldsE), (23, rDecode1E), (24, pFirst1E), (25, pNextE), (26, nByteE)]) (ol := [(0, lCycMicroL0O)]) ⟨cKinds1_ok, lKnown_ok, itstatemake_From_ok, nCPU_ok, rHolds_ok, rDecode1_ok, pFirst1_ok, pNext_ok, nByte_ok, trivial⟩ Try.func6 rfl (by kernel_rfl) Try.call6 ⟨lCycMicroL0_ok, trivial⟩ (ts := lCycMicroTs) (rs := lCycMicroRs) (t := fun a => lCycMicroT a.1 a.2) (fun a => by kernel_rfl)
end
end Go.Proofs.Ytiflfdlglncjlaa
