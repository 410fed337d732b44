/-
  Contracts of functions; each found by the symbolic executor and checked by the kernel. Conditions: none.
-/
import Derived.Test.YtiflfdlglncjlaaS3D
import Derived.Test.YtiflfdlglncjlaaProg
import Derived.Test.YtiflfdlglncjlaaLaw16a
set_option linter.unusedSimpArgs false
open Go Go.S3 Go.Proofs
set_option linter.unusedVariables false
set_option maxRecDepth 100000
namespace Go.Proofs.Ytiflfdlglncjlaa
noncomputable section
abbrev kSeqTs : List Sh := [Sh.agg (R.pair (R.int IntKind.i64) (R.pair (R.pair (R.int IntKind.u8) (R.pair (R.int IntKind.u8) (R.pair (R.int IntKind.u8) (R.pair (R.int IntKind.u8) (R.pair (R.int IntKind.u8) (R.pair (R.int IntKind.u8) (R.pair (R.int IntKind.u8) (R.pair (R.pair R.bool (R.pair R.bool (R.pair R.bool (R.pair R.bool (R.pair R.bool (R.pair R.bool R.bool)))))) (R.pair (R.int IntKind.u16) (R.int IntKind.u16)))))))))) (R.pair R.bool (R.pair R.bool (R.pair R.bool (R.pair (R.int IntKind.u8) (R.pair R.bool (R.pair R.bool (R.pair R.bool (R.pair R.bool (R.pair R.bool (R.pair R.bool R.bool)))))))))))), Sh.one (R.int IntKind.i64), Sh.one (R.sl (R.int IntKind.u8))]

abbrev kSeqRs : Rs := Rs.tup [Sh.one (R.sl (RY)), Sh.one (R.sl (R.int IntKind.u8)), Sh.one R.bool]

def kSeqL0c : LS := { n := 53, slots := [(1, .code (Sh.one (R.int IntKind.i64))), (2, .code (Sh.one (R.sl (R.int IntKind.u8)))), (3, .fix (A.loc 0 0)), (6, .code (Sh.one (R.sl (RY)))), (7, .code (Sh.one (R.sl (R.int IntKind.u8)))), (8, .code (Sh.one R.bool)), (9, .tip 0), (10, .tip 1)], boxes := [[.many (R.pair (R.int IntKind.i64) (R.pair (R.pair (R.int IntKind.u8) (R.pair (R.int IntKind.u8) (R.pair (R.int IntKind.u8) (R.pair (R.int IntKind.u8) (R.pair (R.int IntKind.u8) (R.pair (R.int IntKind.u8) (R.pair (R.int IntKind.u8) (R.pair (R.pair R.bool (R.pair R.bool (R.pair R.bool (R.pair R.bool (R.pair R.bool (R.pair R.bool R.bool)))))) (R.pair (R.int IntKind.u16) (R.int IntKind.u16)))))))))) (R.pair R.bool (R.pair R.bool (R.pair R.bool (R.pair (R.int IntKind.u8) (R.pair R.bool (R.pair R.bool (R.pair R.bool (R.pair R.bool (R.pair R.bool (R.pair R.bool R.bool))))))))))))]], stgs := [⟨(RY), 27, true⟩, ⟨(R.int IntKind.u8), 5, true⟩] }

noncomputable def kSeqL0T (a : Int × List Int × List TY × List Int × Bool × TC × List TY × List Int × PUnit) : RT (Option (Go1 (Int × List Int × List TY × List Int × Bool × TC × List TY × List Int × PUnit))) :=
  let x1 : TY × Bool := nextX a.2.2.2.2.2.1 a.1 a.2.2.2.2.2.2.2.1
  let x2 : Bool := !x1.2
  let x3 : Int × Int × Int × Int := x1.1
  let x4 : List TY := a.2.2.2.2.2.2.1 ++ [x3]
  let x5 : Bool := Nat.ble (List.length x4) most
  let x6 : Bool := !x5
  let x7 : Bool := rReads x3.1 && decide (iN (List.length a.2.2.2.2.2.2.2.1) < iN (List.length a.2.1))
  let x8 : Bool := !x7 || inRng (iN (List.length a.2.2.2.2.2.2.2.1)) (List.length a.2.1)
  let x9 : List Int := a.2.2.2.2.2.2.2.1 ++ [bif x7 then R.get (R.int IntKind.u8) a.2.1 (iN (List.length a.2.2.2.2.2.2.2.1)) else x3.2.2.1]
  let x10 : TC × List TY × List Int × PUnit := (a.2.2.2.2.2.1, a.2.2.2.2.2.2.1, a.2.2.2.2.2.2.2.1, PUnit.unit)
  .br (decide (iN (List.length a.2.2.2.2.2.2.1) ≤ 6))
  (.br (x2 || (x6 || (!x8 || Nat.ble (List.length x9) most)))
   (.br (x2 || (x6 || x8))
    (.br (x2 || x5)
     (.br (x2)
      (.leaf (some (Go1.ret (a.1, a.2.1, a.2.2.2.2.2.2.1, a.2.2.2.2.2.2.2.1, true, x10))))
      (.leaf (some (Go1.cont (a.1, a.2.1, a.2.2.1, a.2.2.2.1, a.2.2.2.2.1, a.2.2.2.2.2.1, x4, x9, PUnit.unit)))))
     (.leaf none))
    (.leaf none))
   (.leaf none))
  (.leaf (some (Go1.brk (a.1, a.2.1, a.2.2.1, a.2.2.2.1, a.2.2.2.2.1, x10))))

noncomputable def kSeqL0O : Ora := loopE true kSeqL0c kSeqL0T (fun a => 9)

theorem kSeqL0_ok : OraOk (envX Try.prog [(25, pNextE), (52, rReadsE)] [] 16383 8) (.block 0 (.loop (bodyIn Try.f30.body 0))) kSeqL0O :=
  loop_part (envX_ok (l := [(25, pNextE), (52, rReadsE)]) ⟨pNext_ok, rReads_ok, trivial⟩ [] 16383 8) (loopsOk_bare (by kernel_rfl)) (fun a => by kernel_rfl)

noncomputable def kSeqT (c : TC) (s : Int) (g : List Int) : RT (Option (List TY × List Int × Bool)) :=
  let x1 : Int × List Int × List TY × List Int × Bool × TC × List TY × List Int × PUnit := (s, g, [], [], false, c, [], [], ())
  let x2 : Option (Bool × Int × List Int × List TY × List Int × Bool × TC × List TY × List Int × PUnit) := runF true kSeqL0T (fun a => 9) x1
  let x3 : Bool × Int × List Int × List TY × List Int × Bool × TC × List TY × List Int × PUnit := getO (false, x1) x2
  let x4 : List TY × List Int × Bool × TC × List TY × List Int × PUnit := x3.2.2.2
  let x5 : List Int × Bool × TC × List TY × List Int × PUnit := x4.2
  .br (okB x2)
  (.br x3.1
   (.leaf (some ((x4.1, x5.1, x5.2.1))))
   (.leaf (some (([], [], false)))))
  (.leaf none)

noncomputable def kSeq (c : TC) (s : Int) (g : List Int) : List TY × List Int × Bool := getO kSeqRs.dflt (kSeqT c s g).val

noncomputable def kSeqC (c : TC) (s : Int) (g : List Int) : Bool := okB (kSeqT c s g).val

noncomputable def kSeqE : Entry := pureE kSeqTs kSeqRs (fun a => some (kSeqC a.1 a.2.1 a.2.2)) (fun a => kSeq a.1 a.2.1 a.2.2)

theorem kSeq_ok : EntryOk Try.prog 30 kSeqE :=
  pure_part (P := Try.prog) (n := 16383) (k := 8) (l := [(25, pNextE), (52, rReadsE)]) (ol := [(0, kSeqL0O)]) ⟨pNext_ok, rReads_ok, trivial⟩ Try.func30 rfl (by kernel_rfl) Try.call30 ⟨kSeqL0_ok, trivial⟩ (ts := kSeqTs) (rs := kSeqRs) (t := fun a => kSeqT a.1 a.2.1 a.2.2) (fun a => by kernel_rfl)

abbrev lMFirstTs : List Sh := [Sh.one (R.int IntKind.i64), Sh.one (R.int IntKind.u8)]

abbrev lMFirstRs : Rs := Rs.one (Sh.one R.bool)

noncomputable def lMFirstT (chip : Int) (op : Int) : RT (Bool) :=
  .br (rFirst chip op != rFirst chip op)
  (.leaf (false))
  (.br (rFirst 1 op != rFirst 1 op)
   (.leaf (false))
   (.br (rFirst 2 op != rFirst 2 op)
    (.leaf (false))
    (.leaf (true))))

noncomputable def lMFirst (chip : Int) (op : Int) : Bool := (lMFirstT chip op).val

noncomputable def lMFirstE : Entry := pureE lMFirstTs lMFirstRs (fun _ => none) (fun a => lMFirst a.1 a.2)

theorem lMFirst_ok : EntryOk Try.prog 8 lMFirstE :=
  pure_tot (P := Try.prog) (n := 127) (k := 8) (l := [(24, pFirst1E), (27, rFirstE), (28, kKnownE)]) (ol := []) ⟨pFirst1_ok, rFirst_ok, kKnown_ok, trivial⟩ Try.func8 rfl (by kernel_rfl) Try.call8 trivial (ts := lMFirstTs) (rs := lMFirstRs) (t := fun a => lMFirstT a.1 a.2) (fun a => by kernel_rfl)

abbrev lMEndsTs : List Sh := [Sh.one (R.sl (R.int IntKind.i64)), Sh.one (R.int IntKind.u8)]

abbrev lMEndsRs : Rs := Rs.one (Sh.one R.bool)

def lMEndsL0c : LS := { n := 81, slots := [(4, .code (Sh.one R.bool)), (45, .code (Sh.one (R.sl (RY)))), (46, .code (Sh.one (R.int IntKind.i64))), (47, .code (Sh.one (R.int IntKind.i64)))], boxes := [[.many (R.pair (R.int IntKind.i64) (R.pair (R.pair (R.int IntKind.u8) (R.pair (R.int IntKind.u8) (R.pair (R.int IntKind.u8) (R.pair (R.int IntKind.u8) (R.pair (R.int IntKind.u8) (R.pair (R.int IntKind.u8) (R.pair (R.int IntKind.u8) (R.pair (R.pair R.bool (R.pair R.bool (R.pair R.bool (R.pair R.bool (R.pair R.bool (R.pair R.bool R.bool)))))) (R.pair (R.int IntKind.u16) (R.int IntKind.u16)))))))))) (R.pair R.bool (R.pair R.bool (R.pair R.bool (R.pair (R.int IntKind.u8) (R.pair R.bool (R.pair R.bool (R.pair R.bool (R.pair R.bool (R.pair R.bool (R.pair R.bool R.bool))))))))))))]], stgs := [] }

noncomputable def lMEndsL0T (a : Bool × List TY × Int × Int × TC × PUnit) : RT (Option (Go1 (Bool × List TY × Int × Int × TC × PUnit))) :=
  let x1 : Int × Int × Int × Int := R.get (RY) a.2.1 a.2.2.2.1
  let x2 : Int := x1.1
  let x3 : Int := x1.2.2.2
  let x4 : List TY × Int × Int × TC × PUnit := (a.2.1, a.2.2.1, a.2.2.2.1, a.2.2.2.2.1, PUnit.unit)
  .br (decide (a.2.2.2.1 < a.2.2.1))
  (.br (inRng a.2.2.2.1 (List.length a.2.1))
   (.br (!(x2 == 1 || (x2 == 8 || x2 == 12)) == (a.2.2.2.1 == 0) || (decide (x3 < 3) || decide (x3 > 6)))
    (.leaf (some (Go1.ret (false, x4))))
    (.leaf (some (Go1.cont (a.1, a.2.1, a.2.2.1, IntKind.i64.wrap (a.2.2.2.1 + 1), a.2.2.2.2.1, PUnit.unit)))))
   (.leaf none))
  (.leaf (some (Go1.brk (a.1, x4))))

noncomputable def lMEndsL0O : Ora := loopE true lMEndsL0c lMEndsL0T (fun a => (a.2.2.1 - a.2.2.2.1).toNat + 1)

theorem lMEndsL0_ok : OraOk (envX Try.prog [(28, kKnownE), (29, kOperateE), (30, kSeqE)] [] 16383 8) (.block 0 (.loop (bodyIn Try.f9.body 0))) lMEndsL0O :=
  loop_part (envX_ok (l := [(28, kKnownE), (29, kOperateE), (30, kSeqE)]) ⟨kKnown_ok, kOperate_ok, kSeq_ok, trivial⟩ [] 16383 8) (loopsOk_bare (by kernel_rfl)) (fun a => by kernel_rfl)

noncomputable def lMEndsT (n : List Int) (op : Int) : RT (Option (Bool)) :=
  let x1 : List TY × List Int × Bool := kSeq (kOperate n op).1 (kOperate n op).2.1 (kOperate n op).2.2
  let x2 : List TY := x1.1
  let x3 : Int := iN (List.length x2)
  let x4 : Bool × List TY × Int × Int × TC × PUnit := (false, x2, x3, 0, (kOperate n op).1, ())
  let x5 : Option (Bool × Bool × List TY × Int × Int × TC × PUnit) := runF true lMEndsL0T (fun a => Int.toNat (a.2.2.1 - a.2.2.2.1) + 1) x4
  let x6 : Bool × Bool × List TY × Int × Int × TC × PUnit := getO (false, x4) x5
  .br (decide (iN (List.length n) > 80))
  (.leaf (some (true)))
  (.br (kOperateC n op)
   (.br (kSeqC (kOperate n op).1 (kOperate n op).2.1 (kOperate n op).2.2)
    (.br (!x1.2.2 || (decide (x3 < 1) || decide (x3 > 5)))
     (.leaf (some (false)))
     (.br (okB x5)
      (.br x6.1
       (.leaf (some x6.2.1))
       (.leaf (some (true))))
      (.leaf none)))
    (.leaf none))
   (.leaf none))

noncomputable def lMEnds (n : List Int) (op : Int) : Bool := getO lMEndsRs.dflt (lMEndsT n op).val

noncomputable def lMEndsC (n : List Int) (op : Int) : Bool := okB (lMEndsT n op).val

noncomputable def lMEndsE : Entry := pureE lMEndsTs lMEndsRs (fun a => some (lMEndsC a.1 a.2)) (fun a => lMEnds a.1 a.2)

theorem lMEnds_ok : EntryOk Try.prog 9 lMEndsE :=
  pure_part (P := Try.prog) (n := 16383) (k := 8) (l := [(28, kKnownE), (29, kOperateE), (30, kSeqE)]) (ol := [(0, lMEndsL0O)]) ⟨kKnown_ok, kOperate_ok, kSeq_ok, trivial⟩ Try.func9 rfl (by kernel_rfl) Try.call9 ⟨lMEndsL0_ok, trivial⟩ (ts := lMEndsTs) (rs := lMEndsRs) (t := fun a => lMEndsT a.1 a.2) (fun a => by kernel_rfl)

noncomputable def kbtstateref14_SameBytesE : Entry := .tree (evFunc (envX Try.prog [] [] 31 8) Try.f31)

theorem kbtstateref14_SameBytes_ok : EntryOk Try.prog 31 kbtstateref14_SameBytesE := inl_ok (P := Try.prog) (n := 31) (k := 8) (l := []) (ol := []) trivial Try.func31 rfl (by kernel_rfl) Try.call31 trivial

abbrev lMInjTs : List Sh := [Sh.one (R.sl (R.int IntKind.i64)), Sh.one (R.int IntKind.u8), Sh.agg (R.pair R.bool (R.pair R.bool (R.pair R.bool (R.pair R.bool (R.pair R.bool (R.pair R.bool (R.pair R.bool (R.pair R.bool R.bool))))))))]

abbrev lMInjRs : Rs := Rs.one (Sh.one R.bool)

def lMInjL0c : LS := { n := 161, slots := [(5, .fix (A.loc 0 0)), (6, .code (Sh.one R.bool)), (7, .fix (A.loc 1 0)), (11, .fix (A.loc 3 0)), (12, .code (Sh.one (R.sl (RY)))), (13, .code (Sh.one (R.sl (R.int IntKind.u8)))), (15, .code (Sh.one (R.sl (RY)))), (16, .code (Sh.one (R.sl (R.int IntKind.u8)))), (79, .code (Sh.one (R.int IntKind.i64))), (80, .code (Sh.one (R.int IntKind.i64)))], boxes := [[.many (R.pair R.bool (R.pair R.bool (R.pair R.bool (R.pair R.bool (R.pair R.bool (R.pair R.bool (R.pair R.bool (R.pair R.bool R.bool))))))))], [.many (R.pair (R.int IntKind.i64) (R.pair (R.pair (R.int IntKind.u8) (R.pair (R.int IntKind.u8) (R.pair (R.int IntKind.u8) (R.pair (R.int IntKind.u8) (R.pair (R.int IntKind.u8) (R.pair (R.int IntKind.u8) (R.pair (R.int IntKind.u8) (R.pair (R.pair R.bool (R.pair R.bool (R.pair R.bool (R.pair R.bool (R.pair R.bool (R.pair R.bool R.bool)))))) (R.pair (R.int IntKind.u16) (R.int IntKind.u16)))))))))) (R.pair R.bool (R.pair R.bool (R.pair R.bool (R.pair (R.int IntKind.u8) (R.pair R.bool (R.pair R.bool (R.pair R.bool (R.pair R.bool (R.pair R.bool (R.pair R.bool R.bool))))))))))))], [.many (R.pair (R.int IntKind.i64) (R.pair (R.int IntKind.i64) (R.pair (R.int IntKind.i64) (R.pair (R.int IntKind.i64) (R.pair (R.int IntKind.i64) (R.pair (R.int IntKind.i64) (R.pair (R.int IntKind.i64) (R.int IntKind.i64))))))))], [.many (R.pair (R.int IntKind.i64) (R.pair (R.pair (R.int IntKind.u8) (R.pair (R.int IntKind.u8) (R.pair (R.int IntKind.u8) (R.pair (R.int IntKind.u8) (R.pair (R.int IntKind.u8) (R.pair (R.int IntKind.u8) (R.pair (R.int IntKind.u8) (R.pair (R.pair R.bool (R.pair R.bool (R.pair R.bool (R.pair R.bool (R.pair R.bool (R.pair R.bool R.bool)))))) (R.pair (R.int IntKind.u16) (R.int IntKind.u16)))))))))) (R.pair R.bool (R.pair R.bool (R.pair R.bool (R.pair (R.int IntKind.u8) (R.pair R.bool (R.pair R.bool (R.pair R.bool (R.pair R.bool (R.pair R.bool (R.pair R.bool R.bool))))))))))))]], stgs := [] }

noncomputable def lMInjL0T (a : Bool × List TY × List Int × List TY × List Int × Int × Int × (Bool × Bool × Bool × Bool × Bool × Bool × Bool × Bool × Bool) × TC × TI × TC × PUnit) : RT (Option (Go1 (Bool × List TY × List Int × List TY × List Int × Int × Int × (Bool × Bool × Bool × Bool × Bool × Bool × Bool × Bool × Bool) × TC × TI × TC × PUnit))) :=
  let x1 : Bool := !inRng a.2.2.2.2.2.2.1 (List.length a.2.1)
  let x2 : Int × Int × Int × Int := R.get (RY) a.2.1 a.2.2.2.2.2.2.1
  let x3 : Int := x2.1
  let x4 : Bool := x3 == 1
  let x5 : Bool := x4 || inRng a.2.2.2.2.2.2.1 (List.length a.2.1)
  let x6 : Bool := x3 == 2
  let x7 : Bool := inRng a.2.2.2.2.2.2.1 (List.length a.2.2.2.1)
  let x8 : Bool := x1 || (!x5 || (x4 || (!x6 || x7)))
  let x9 : Bool := !x8
  let x10 : Bool := x1 || x5
  let x11 : Bool := !x10
  let x12 : Int × Int × Int × Int := R.get (RY) a.2.2.2.1 a.2.2.2.2.2.2.1
  let x13 : Int := x12.1
  let x14 : Bool := x4 || x6 && x13 == 9
  let x15 : Bool := !x14
  let x16 : Bool := !x7
  let x17 : Int × Int × Int := x12.2
  let x18 : Int := x17.1
  let x19 : Bool := x18 != a.2.2.2.2.2.2.2.2.1.2.1.2.2.2.2.2.2.2.2.2
  let x20 : Bool := !x15
  let x21 : Bool := x3 != 11
  let x22 : Bool := !x21
  let x23 : Bool := x3 != 10
  let x24 : Bool := !x23
  let x25 : Bool := x20 || (x1 || (x22 || (x1 || (x24 || (x1 || x7)))))
  let x26 : Bool := x15 || (x16 || (x19 || x25))
  let x27 : Bool := !x26
  let x28 : Bool := x20 || (x1 || (x22 || (x1 || (x24 || inRng a.2.2.2.2.2.2.1 (List.length a.2.1)))))
  let x29 : Bool := x15 || (x16 || (x19 || x28))
  let x30 : Bool := !x29
  let x31 : Bool := x20 || (x1 || (x22 || inRng a.2.2.2.2.2.2.1 (List.length a.2.1)))
  let x32 : Bool := x15 || (x16 || (x19 || x31))
  let x33 : Bool := !x32
  let x34 : Bool := x20 || inRng a.2.2.2.2.2.2.1 (List.length a.2.1)
  let x35 : Bool := x15 || (x16 || (x19 || x34))
  let x36 : Bool := !x35
  let x37 : Bool := x15 || x7
  let x38 : Bool := !x37
  let x39 : Bool := x14 || x25
  let x40 : Bool := !x39
  let x41 : Bool := x14 || x28
  let x42 : Bool := !x41
  let x43 : Bool := x14 || x31
  let x44 : Int × Int × Int := x2.2
  let x45 : Int × Int := x44.2
  let x46 : Int × Int := x17.2
  let x47 : Bool := x15 && (x21 && (x23 && !(x3 == x13 && (x44.1 == x18 && (x45.1 == x46.1 && (x45.2 == x46.2 && true))))))
  let x48 : (Bool × Bool × Bool × Bool × Bool × Bool × Bool × Bool × Bool) × TC × TI × TC × PUnit := (a.2.2.2.2.2.2.2.1, a.2.2.2.2.2.2.2.2.1, a.2.2.2.2.2.2.2.2.2.1, a.2.2.2.2.2.2.2.2.2.2.1, PUnit.unit)
  let x49 : List TY × List Int × List TY × List Int × Int × Int × (Bool × Bool × Bool × Bool × Bool × Bool × Bool × Bool × Bool) × TC × TI × TC × PUnit := (a.2.1, a.2.2.1, a.2.2.2.1, a.2.2.2.2.1, a.2.2.2.2.2.1, a.2.2.2.2.2.2.1, x48)
  .br (decide (a.2.2.2.2.2.2.1 < a.2.2.2.2.2.1))
  (.br (x9 || (x11 || (x1 || (x27 || (x30 || (x33 || (x36 || (x38 || (x40 || (x42 || (!x43 || (x14 || x34))))))))))))
   (.br (x9 || (x11 || (x1 || (x27 || (x30 || (x33 || (x36 || (x38 || (x40 || (x42 || x43))))))))))
    (.br (x9 || (x11 || (x1 || (x27 || (x30 || (x33 || (x36 || (x38 || (x40 || x41)))))))))
     (.br (x9 || (x11 || (x1 || (x27 || (x30 || (x33 || (x36 || (x38 || x39))))))))
      (.br (x9 || (x11 || (x1 || (x27 || (x30 || (x33 || (x36 || x37)))))))
       (.br (x9 || (x11 || (x1 || (x27 || (x30 || (x33 || x35))))))
        (.br (x9 || (x11 || (x1 || (x27 || (x30 || x32)))))
         (.br (x9 || (x11 || (x1 || (x27 || x29))))
          (.br (x9 || (x11 || (x1 || x26)))
           (.br (x9 || (x11 || inRng a.2.2.2.2.2.2.1 (List.length a.2.1)))
            (.br (x9 || x10)
             (.br (x8)
              (.br (bif x14 then x19 || x47 else x47)
               (.leaf (some (Go1.ret (false, x49))))
               (.leaf (some (Go1.cont (a.1, a.2.1, a.2.2.1, a.2.2.2.1, a.2.2.2.2.1, a.2.2.2.2.2.1, IntKind.i64.wrap (a.2.2.2.2.2.2.1 + 1), x48)))))
              (.leaf none))
             (.leaf none))
            (.leaf none))
           (.leaf none))
          (.leaf none))
         (.leaf none))
        (.leaf none))
       (.leaf none))
      (.leaf none))
     (.leaf none))
    (.leaf none))
   (.leaf none))
  (.leaf (some (Go1.brk (a.1, x49))))

noncomputable def lMInjL0O : Ora := loopE true lMInjL0c lMInjL0T (fun a => (a.2.2.2.2.2.1 - a.2.2.2.2.2.2.1).toNat + 1)

theorem lMInjL0_ok : OraOk (envX Try.prog [(23, rDecode1E), (28, kKnownE), (29, kOperateE), (30, kSeqE), (31, kbtstateref14_SameBytesE), (32, pFinE)] [] 1048575 8) (.block 0 (.loop (bodyIn Try.f10.body 0))) lMInjL0O :=
  loop_part (envX_ok (l := [(23, rDecode1E), (28, kKnownE), (29, kOperateE), (30, kSeqE), (31, kbtstateref14_SameBytesE), (32, pFinE)]) ⟨rDecode1_ok, kKnown_ok, kOperate_ok, kSeq_ok, kbtstateref14_SameBytes_ok, pFin_ok, trivial⟩ [] 1048575 8) (loopsOk_bare (by kernel_rfl)) (fun a => by kernel_rfl)

noncomputable def lMInjT (n : List Int) (op : Int) (l : Bool × Bool × Bool × Bool × Bool × Bool × Bool × Bool × Bool) : RT (Option (Bool)) :=
  let x1 : Int × Int := (kOperate n op).1.2.1.2.2.2.2.2.2.2.2
  let x2 : TC := ((kOperate n op).1.1, ((kOperate n op).1.2.1.1, (kOperate n op).1.2.1.2.1, (kOperate n op).1.2.1.2.2.1, (kOperate n op).1.2.1.2.2.2.1, (kOperate n op).1.2.1.2.2.2.2.1, (kOperate n op).1.2.1.2.2.2.2.2.1, (kOperate n op).1.2.1.2.2.2.2.2.2.1, (kOperate n op).1.2.1.2.2.2.2.2.2.2.1, x1.1, IntKind.u16.wrap (x1.2 - IntKind.u16.wrap (rDecode (kOperate n op).1.1 op).2.1)), (kOperate n op).1.2.2)
  let x3 : List TY × List Int × Bool := kSeq x2 0 (kOperate n op).2.2
  let x4 : List Int × Bool := x3.2
  let x5 : List TY := x3.1
  let x6 : Int := iN (List.length x5)
  let x7 : List Int := x4.1
  let x8 : Bool × List TY × List Int × List TY × List Int × Int × Int × (Bool × Bool × Bool × Bool × Bool × Bool × Bool × Bool × Bool) × TC × TI × TC × PUnit := (false, x5, x7, (kSeq (kOperate n op).1 5 (kOperate n op).2.2).1, (kSeq (kOperate n op).1 5 (kOperate n op).2.2).2.1, x6, 0, l, (kOperate n op).1, rDecode (kOperate n op).1.1 op, x2, ())
  let x9 : Option (Bool × Bool × List TY × List Int × List TY × List Int × Int × Int × (Bool × Bool × Bool × Bool × Bool × Bool × Bool × Bool × Bool) × TC × TI × TC × PUnit) := runF true lMInjL0T (fun a => Int.toNat (a.2.2.2.2.2.1 - a.2.2.2.2.2.2.1) + 1) x8
  let x10 : Bool × Bool × List TY × List Int × List TY × List Int × Int × Int × (Bool × Bool × Bool × Bool × Bool × Bool × Bool × Bool × Bool) × TC × TI × TC × PUnit := getO (false, x8) x9
  let x11 : Bool × List TY × List Int × List TY × List Int × Int × Int × (Bool × Bool × Bool × Bool × Bool × Bool × Bool × Bool × Bool) × TC × TI × TC × PUnit := x10.2
  let x12 : List Int × List TY × List Int × Int × Int × (Bool × Bool × Bool × Bool × Bool × Bool × Bool × Bool × Bool) × TC × TI × TC × PUnit := x11.2.2
  let x13 : List Int × Int × Int × (Bool × Bool × Bool × Bool × Bool × Bool × Bool × Bool × Bool) × TC × TI × TC × PUnit := x12.2.2
  let x14 : (Bool × Bool × Bool × Bool × Bool × Bool × Bool × Bool × Bool) × TC × TI × TC × PUnit := x13.2.2.2
  let x15 : TC × TI × TC × PUnit := x14.2
  let x16 : Bool × Bool × Bool × Bool × Bool × Bool × Bool × Bool × Bool := x14.1
  let x17 : TC := finX x15.2.2.1 0 x12.1 x16
  let x18 : TC := finX x15.1 5 x13.1 x16
  let x19 : TR × Bool × Bool × Bool × Int × Bool × Bool × Bool × Bool × Bool × Bool × Bool := x17.2
  let x20 : TR := x19.1
  let x21 : TR × Bool × Bool × Bool × Int × Bool × Bool × Bool × Bool × Bool × Bool × Bool := x18.2
  let x22 : TR := x21.1
  let x23 : Int × Int × Int × Int × Int × Int × TF × Int × Int := x20.2
  let x24 : Int × Int × Int × Int × Int × Int × TF × Int × Int := x22.2
  let x25 : Int × Int × Int × Int × Int × TF × Int × Int := x23.2
  let x26 : Int × Int × Int × Int × Int × TF × Int × Int := x24.2
  let x27 : Int × Int × Int × Int × TF × Int × Int := x25.2
  let x28 : Int × Int × Int × Int × TF × Int × Int := x26.2
  let x29 : Int × Int × Int × TF × Int × Int := x27.2
  let x30 : Int × Int × Int × TF × Int × Int := x28.2
  let x31 : Int × Int × TF × Int × Int := x29.2
  let x32 : Int × Int × TF × Int × Int := x30.2
  let x33 : Int × TF × Int × Int := x31.2
  let x34 : Int × TF × Int × Int := x32.2
  let x35 : TF × Int × Int := x33.2
  let x36 : TF := x35.1
  let x37 : TF × Int × Int := x34.2
  let x38 : TF := x37.1
  let x39 : Bool × Bool × Bool × Bool × Bool × Bool := x36.2
  let x40 : Bool × Bool × Bool × Bool × Bool × Bool := x38.2
  let x41 : Bool × Bool × Bool × Bool × Bool := x39.2
  let x42 : Bool × Bool × Bool × Bool × Bool := x40.2
  let x43 : Bool × Bool × Bool × Bool := x41.2
  let x44 : Bool × Bool × Bool × Bool := x42.2
  let x45 : Bool × Bool × Bool := x43.2
  let x46 : Bool × Bool × Bool := x44.2
  let x47 : Bool × Bool := x45.2
  let x48 : Bool × Bool := x46.2
  let x49 : Int × Int := x35.2
  let x50 : Int × Int := x37.2
  let x51 : Bool × Bool × Bool × Int × Bool × Bool × Bool × Bool × Bool × Bool × Bool := x19.2
  let x52 : Bool × Bool × Bool × Int × Bool × Bool × Bool × Bool × Bool × Bool × Bool := x21.2
  let x53 : Bool × Bool × Int × Bool × Bool × Bool × Bool × Bool × Bool × Bool := x51.2
  let x54 : Bool × Bool × Int × Bool × Bool × Bool × Bool × Bool × Bool × Bool := x52.2
  let x55 : Bool × Int × Bool × Bool × Bool × Bool × Bool × Bool × Bool := x53.2
  let x56 : Bool × Int × Bool × Bool × Bool × Bool × Bool × Bool × Bool := x54.2
  let x57 : Int × Bool × Bool × Bool × Bool × Bool × Bool × Bool := x55.2
  let x58 : Int × Bool × Bool × Bool × Bool × Bool × Bool × Bool := x56.2
  let x59 : TF := x57.2
  let x60 : TF := x58.2
  let x61 : Bool × Bool × Bool × Bool × Bool × Bool := x59.2
  let x62 : Bool × Bool × Bool × Bool × Bool × Bool := x60.2
  let x63 : Bool × Bool × Bool × Bool × Bool := x61.2
  let x64 : Bool × Bool × Bool × Bool × Bool := x62.2
  let x65 : Bool × Bool × Bool × Bool := x63.2
  let x66 : Bool × Bool × Bool × Bool := x64.2
  let x67 : Bool × Bool × Bool := x65.2
  let x68 : Bool × Bool × Bool := x66.2
  let x69 : Bool × Bool := x67.2
  let x70 : Bool × Bool := x68.2
  .br (decide (iN (List.length n) > 80))
  (.leaf (some (true)))
  (.br (kOperateC n op)
   (.br (kSeqC x2 0 (kOperate n op).2.2)
    (.br (kSeqC (kOperate n op).1 5 (kOperate n op).2.2)
     (.br (!x4.2 || (!(kSeq (kOperate n op).1 5 (kOperate n op).2.2).2.2 || (x6 != iN (List.length (kSeq (kOperate n op).1 5 (kOperate n op).2.2).1) || !ByteArray.toList (strOf x7) == ByteArray.toList (strOf (kSeq (kOperate n op).1 5 (kOperate n op).2.2).2.1))))
      (.leaf (some (false)))
      (.br (okB x9)
       (.br x10.1
        (.leaf (some x11.1))
        (.leaf (some (x17.1 == x18.1 && (x20.1 == x22.1 && (x23.1 == x24.1 && (x25.1 == x26.1 && (x27.1 == x28.1 && (x29.1 == x30.1 && (x31.1 == x32.1 && (x33.1 == x34.1 && (x36.1 == x38.1 && (x39.1 == x40.1 && (x41.1 == x42.1 && (x43.1 == x44.1 && (x45.1 == x46.1 && (x47.1 == x48.1 && (x47.2 == x48.2 && (x49.1 == x50.1 && (x49.2 == x50.2 && (x51.1 == x52.1 && (x53.1 == x54.1 && (x55.1 == x56.1 && (x57.1 == x58.1 && (x59.1 == x60.1 && (x61.1 == x62.1 && (x63.1 == x64.1 && (x65.1 == x66.1 && (x67.1 == x68.1 && (x69.1 == x70.1 && (x69.2 == x70.2 && true))))))))))))))))))))))))))) && kKnown))))
       (.leaf none)))
     (.leaf none))
    (.leaf none))
   (.leaf none))

noncomputable def lMInj (n : List Int) (op : Int) (l : Bool × Bool × Bool × Bool × Bool × Bool × Bool × Bool × Bool) : Bool := getO lMInjRs.dflt (lMInjT n op l).val

noncomputable def lMInjC (n : List Int) (op : Int) (l : Bool × Bool × Bool × Bool × Bool × Bool × Bool × Bool × Bool) : Bool := okB (lMInjT n op l).val

noncomputable def lMInjE : Entry := pureE lMInjTs lMInjRs (fun a => some (lMInjC a.1 a.2.1 a.2.2)) (fun a => lMInj a.1 a.2.1 a.2.2)

theorem lMInj_ok : EntryOk Try.prog 10 lMInjE :=
  pure_part (P := Try.prog) (n := 1048575) (k := 8) (l := [(23, rDecode1E), (28, kKnownE), (29, kOperateE), (30, kSeqE), (31, kbtstateref14_SameBytesE), (32, pFinE)]) (ol := [(0, lMInjL0O)]) ⟨rDecode1_ok, kKnown_ok, kOperate_ok, kSeq_ok, kbtstateref14_SameBytes_ok, pFin_ok, trivial⟩ Try.func10 rfl (by kernel_rfl) Try.call10 ⟨lMInjL0_ok, trivial⟩ (ts := lMInjTs) (rs := lMInjRs) (t := fun a => lMInjT a.1 a.2.1 a.2.2) (fun a => by kernel_rfl)

abbrev lMStacksTs : List Sh := [Sh.one (R.sl (R.int IntKind.i64)), Sh.one (R.int IntKind.u8), Sh.agg (R.pair R.bool (R.pair R.bool (R.pair R.bool (R.pair R.bool (R.pair R.bool (R.pair R.bool (R.pair R.bool (R.pair R.bool R.bool))))))))]

abbrev lMStacksRs : Rs := Rs.one (Sh.one R.bool)

def lMStacksL0c : LS := { n := 99, slots := [(1, .code (Sh.one (R.int IntKind.u8))), (5, .fix (A.loc 0 0)), (7, .fix (A.loc 1 0)), (8, .code (Sh.one (R.int IntKind.i64))), (11, .code (Sh.one (R.sl (R.int IntKind.u8)))), (13, .code (Sh.one (R.int IntKind.i64))), (39, .code (Sh.one (R.sl (RY)))), (40, .code (Sh.one (R.int IntKind.i64))), (41, .code (Sh.one (R.int IntKind.i64)))], boxes := [[.many (R.pair R.bool (R.pair R.bool (R.pair R.bool (R.pair R.bool (R.pair R.bool (R.pair R.bool (R.pair R.bool (R.pair R.bool R.bool))))))))], [.many (R.pair (R.int IntKind.i64) (R.pair (R.pair (R.int IntKind.u8) (R.pair (R.int IntKind.u8) (R.pair (R.int IntKind.u8) (R.pair (R.int IntKind.u8) (R.pair (R.int IntKind.u8) (R.pair (R.int IntKind.u8) (R.pair (R.int IntKind.u8) (R.pair (R.pair R.bool (R.pair R.bool (R.pair R.bool (R.pair R.bool (R.pair R.bool (R.pair R.bool R.bool)))))) (R.pair (R.int IntKind.u16) (R.int IntKind.u16)))))))))) (R.pair R.bool (R.pair R.bool (R.pair R.bool (R.pair (R.int IntKind.u8) (R.pair R.bool (R.pair R.bool (R.pair R.bool (R.pair R.bool (R.pair R.bool (R.pair R.bool R.bool))))))))))))]], stgs := [] }

noncomputable def lMStacksL0T (a : Int × Int × List Int × Int × List TY × Int × Int × (Bool × Bool × Bool × Bool × Bool × Bool × Bool × Bool × Bool) × TC × PUnit) : RT (Option (Go1 (Int × Int × List Int × Int × List TY × Int × Int × (Bool × Bool × Bool × Bool × Bool × Bool × Bool × Bool × Bool) × TC × PUnit))) :=
  let x1 : Int := (R.get (RY) a.2.2.2.2.1 a.2.2.2.2.2.2.1).1
  let x2 : Int := bif x1 == 5 then IntKind.i64.wrap (a.2.2.2.1 - 1) else a.2.2.2.1
  let x3 : (Bool × Bool × Bool × Bool × Bool × Bool × Bool × Bool × Bool) × TC × PUnit := (a.2.2.2.2.2.2.2.1, a.2.2.2.2.2.2.2.2.1, PUnit.unit)
  .br (decide (a.2.2.2.2.2.2.1 < a.2.2.2.2.2.1))
  (.br (inRng a.2.2.2.2.2.2.1 (List.length a.2.2.2.2.1))
   (.leaf (some (Go1.cont (a.1, a.2.1, a.2.2.1, bif x1 == 4 then IntKind.i64.wrap (x2 + 1) else x2, a.2.2.2.2.1, a.2.2.2.2.2.1, IntKind.i64.wrap (a.2.2.2.2.2.2.1 + 1), x3))))
   (.leaf none))
  (.leaf (some (Go1.brk (a.1, a.2.1, a.2.2.1, a.2.2.2.1, a.2.2.2.2.1, a.2.2.2.2.2.1, a.2.2.2.2.2.2.1, x3))))

noncomputable def lMStacksL0O : Ora := loopE false lMStacksL0c lMStacksL0T (fun a => (a.2.2.2.2.2.1 - a.2.2.2.2.2.2.1).toNat + 1)

theorem lMStacksL0_ok : OraOk (envX Try.prog [(23, rDecode1E), (28, kKnownE), (29, kOperateE), (30, kSeqE), (32, pFinE), (33, rInternalE)] [] 262143 8) (.block 0 (.loop (bodyIn Try.f11.body 0))) lMStacksL0O :=
  loop_part (envX_ok (l := [(23, rDecode1E), (28, kKnownE), (29, kOperateE), (30, kSeqE), (32, pFinE), (33, rInternalE)]) ⟨rDecode1_ok, kKnown_ok, kOperate_ok, kSeq_ok, pFin_ok, rInternal_ok, trivial⟩ [] 262143 8) (loopsOk_bare (by kernel_rfl)) (fun a => by kernel_rfl)

noncomputable def lMStacksT (n : List Int) (op : Int) (l : Bool × Bool × Bool × Bool × Bool × Bool × Bool × Bool × Bool) : RT (Option (Bool)) :=
  let x1 : List TY × List Int × Bool := kSeq (kOperate n op).1 (kOperate n op).2.1 (kOperate n op).2.2
  let x2 : List Int × Bool := x1.2
  let x3 : List TY := x1.1
  let x4 : Int × Int × List Int × Int × List TY × Int × Int × (Bool × Bool × Bool × Bool × Bool × Bool × Bool × Bool × Bool) × TC × PUnit := (op, (kOperate n op).2.1, x2.1, 0, x3, iN (List.length x3), 0, l, (kOperate n op).1, ())
  let x5 : Option (Bool × Int × Int × List Int × Int × List TY × Int × Int × (Bool × Bool × Bool × Bool × Bool × Bool × Bool × Bool × Bool) × TC × PUnit) := runF false lMStacksL0T (fun a => Int.toNat (a.2.2.2.2.2.1 - a.2.2.2.2.2.2.1) + 1) x4
  let x6 : Int × Int × List Int × Int × List TY × Int × Int × (Bool × Bool × Bool × Bool × Bool × Bool × Bool × Bool × Bool) × TC × PUnit := (getO (false, x4) x5).2
  let x7 : Int × List Int × Int × List TY × Int × Int × (Bool × Bool × Bool × Bool × Bool × Bool × Bool × Bool × Bool) × TC × PUnit := x6.2
  let x8 : Int := x7.1
  let x9 : List Int × Int × List TY × Int × Int × (Bool × Bool × Bool × Bool × Bool × Bool × Bool × Bool × Bool) × TC × PUnit := x7.2
  let x10 : Int × List TY × Int × Int × (Bool × Bool × Bool × Bool × Bool × Bool × Bool × Bool × Bool) × TC × PUnit := x9.2
  let x11 : (Bool × Bool × Bool × Bool × Bool × Bool × Bool × Bool × Bool) × TC × PUnit := x10.2.2.2.2
  let x12 : TC := x11.2.1
  let x13 : Int := (rDecode x12.1 x6.1).1
  .br (decide (iN (List.length n) > 80))
  (.leaf (some (true)))
  (.br (kOperateC n op)
   (.br (kSeqC (kOperate n op).1 (kOperate n op).2.1 (kOperate n op).2.2)
    (.br (!x2.2)
     (.leaf (some (false)))
     (.br (okB x5)
      (.br (!rInternal x8 && (x13 == 29 || (x13 == 4 || (x13 == 16 || x13 == 17))))
       (.leaf (some (true)))
       (.leaf (some ((finX x12 x8 x9.1 x11.1).2.1.2.2.2.2.2.2.2.2.1 == IntKind.u16.wrap (x12.2.1.2.2.2.2.2.2.2.2.1 + IntKind.u16.wrap x10.1) && kKnown))))
      (.leaf none)))
    (.leaf none))
   (.leaf none))

noncomputable def lMStacks (n : List Int) (op : Int) (l : Bool × Bool × Bool × Bool × Bool × Bool × Bool × Bool × Bool) : Bool := getO lMStacksRs.dflt (lMStacksT n op l).val

noncomputable def lMStacksC (n : List Int) (op : Int) (l : Bool × Bool × Bool × Bool × Bool × Bool × Bool × Bool × Bool) : Bool := okB (lMStacksT n op l).val

noncomputable def lMStacksE : Entry := pureE lMStacksTs lMStacksRs (fun a => some (lMStacksC a.1 a.2.1 a.2.2)) (fun a => lMStacks a.1 a.2.1 a.2.2)

theorem lMStacks_ok : EntryOk Try.prog 11 lMStacksE :=
  pure_part (P := Try.prog) (n := 262143) (k := 8) (l := [(23, rDecode1E), (28, kKnownE), (29, kOperateE), (30, kSeqE), (32, pFinE), (33, rInternalE)]) (ol := [(0, lMStacksL0O)]) ⟨rDecode1_ok, kKnown_ok, kOperate_ok, kSeq_ok, pFin_ok, rInternal_ok, trivial⟩ Try.func11 rfl (by kernel_rfl) Try.call11 ⟨lMStacksL0_ok, trivial⟩ (ts := lMStacksTs) (rs := lMStacksRs) (t := fun a => lMStacksT a.1 a.2.1 a.2.2) (fun a => by kernel_rfl)

abbrev lMKeepsTs : List Sh := [Sh.one (R.sl (R.int IntKind.i64)), Sh.one (R.int IntKind.u8), Sh.agg (R.pair R.bool (R.pair R.bool (R.pair R.bool (R.pair R.bool (R.pair R.bool (R.pair R.bool (R.pair R.bool (R.pair R.bool R.bool))))))))]

abbrev lMKeepsRs : Rs := Rs.one (Sh.one R.bool)

noncomputable def lMKeepsT (n : List Int) (op : Int) (l : Bool × Bool × Bool × Bool × Bool × Bool × Bool × Bool × Bool) : RT (Option (Bool)) :=
  let x1 : TC := finX (kOperate n op).1 (kOperate n op).2.1 (kOperate n op).2.2 l
  let x2 : TR × Bool × Bool × Bool × Int × Bool × Bool × Bool × Bool × Bool × Bool × Bool := x1.2
  let x3 : TR := x2.1
  let x4 : Int × Int × Int × Int × Int × Int × TF × Int × Int := x3.2
  let x5 : Int × Int × Int × Int × Int × TF × Int × Int := x4.2
  let x6 : Int × Int × Int × Int × TF × Int × Int := x5.2
  let x7 : Int × Int × Int × TF × Int × Int := x6.2
  let x8 : Int × Int × TF × Int × Int := x7.2
  let x9 : Int × TF × Int × Int := x8.2
  let x10 : TF × Int × Int := x9.2
  let x11 : TF := x10.1
  let x12 : TF := (kOperate n op).1.2.1.2.2.2.2.2.2.2.1
  let x13 : Bool := x11.1 == x12.1
  let x14 : Bool × Bool × Bool × Bool × Bool × Bool := x11.2
  let x15 : Bool × Bool × Bool × Bool × Bool × Bool := x12.2
  let x16 : Bool := x14.1 == x15.1
  let x17 : Bool × Bool × Bool × Bool × Bool := x14.2
  let x18 : Bool × Bool × Bool × Bool × Bool := x15.2
  let x19 : Bool := x17.1 == x18.1
  let x20 : Bool × Bool × Bool × Bool := x17.2
  let x21 : Bool × Bool × Bool × Bool := x18.2
  let x22 : Bool := x20.1 == x21.1
  let x23 : Bool × Bool × Bool := x20.2
  let x24 : Bool × Bool × Bool := x21.2
  let x25 : Bool := x23.1 == x24.1
  let x26 : Bool × Bool := x23.2
  let x27 : Bool × Bool := x24.2
  let x28 : Bool := x26.1 == x27.1
  let x29 : Bool := x26.2 == x27.2
  let x30 : Int × Int := x10.2
  let x31 : Int := x30.1
  let x32 : Int := x30.2
  let x33 : Bool × Bool × Bool × Int × Bool × Bool × Bool × Bool × Bool × Bool × Bool := x2.2
  let x34 : Bool × Bool × Int × Bool × Bool × Bool × Bool × Bool × Bool × Bool := x33.2
  let x35 : Bool × Int × Bool × Bool × Bool × Bool × Bool × Bool × Bool := x34.2
  let x36 : Int × Bool × Bool × Bool × Bool × Bool × Bool × Bool := x35.2
  let x37 : TF := x36.2
  let x38 : Bool × Bool × Bool × Bool × Bool × Bool := x37.2
  let x39 : Bool × Bool × Bool × Bool × Bool := x38.2
  let x40 : Bool × Bool × Bool × Bool := x39.2
  let x41 : Bool × Bool × Bool := x40.2
  let x42 : Bool × Bool × Bool := (kOperate n op).1.2.2.2.2.2.2.2.2.2.2
  let x43 : Bool × Bool := x41.2
  let x44 : Bool × Bool := x42.2
  .br (decide (iN (List.length n) > 80))
  (.leaf (some (true)))
  (.br (kOperateC n op)
   (.br (rInternal (kOperate n op).2.1)
    (.leaf (some (true)))
    (.br (bif (rDecode (kOperate n op).1.1 op).1 == 1 then (rDecode (kOperate n op).1.1 op).1 == 1 else bif (rDecode (kOperate n op).1.1 op).1 == 6 then (rDecode (kOperate n op).1.1 op).1 == 6 else bif (rDecode (kOperate n op).1.1 op).1 == 8 then (rDecode (kOperate n op).1.1 op).1 == 8 else bif (rDecode (kOperate n op).1.1 op).1 == 10 then (rDecode (kOperate n op).1.1 op).1 == 10 else bif (rDecode (kOperate n op).1.1 op).1 == 46 then (rDecode (kOperate n op).1.1 op).1 == 46 else bif (rDecode (kOperate n op).1.1 op).1 == 34 then (rDecode (kOperate n op).1.1 op).1 == 34 else bif (rDecode (kOperate n op).1.1 op).1 == 24 then (rDecode (kOperate n op).1.1 op).1 == 24 else bif (rDecode (kOperate n op).1.1 op).1 == 25 then (rDecode (kOperate n op).1.1 op).1 == 25 else bif (rDecode (kOperate n op).1.1 op).1 == 26 then (rDecode (kOperate n op).1.1 op).1 == 26 else bif (rDecode (kOperate n op).1.1 op).1 == 27 then (rDecode (kOperate n op).1.1 op).1 == 27 else bif (rDecode (kOperate n op).1.1 op).1 == 45 then (rDecode (kOperate n op).1.1 op).1 == 45 else bif (rDecode (kOperate n op).1.1 op).1 == 28 then (rDecode (kOperate n op).1.1 op).1 == 28 else bif (rDecode (kOperate n op).1.1 op).1 == 29 then (rDecode (kOperate n op).1.1 op).1 == 29 else (rDecode (kOperate n op).1.1 op).1 == 30)
     (.leaf (some (x1.1 == (kOperate n op).1.1 && (x3.1 == (kOperate n op).1.2.1.1 && (x4.1 == (kOperate n op).1.2.1.2.1 && (x5.1 == (kOperate n op).1.2.1.2.2.1 && (x6.1 == (kOperate n op).1.2.1.2.2.2.1 && (x7.1 == (kOperate n op).1.2.1.2.2.2.2.1 && (x8.1 == (kOperate n op).1.2.1.2.2.2.2.2.1 && (x9.1 == (kOperate n op).1.2.1.2.2.2.2.2.2.1 && (x13 && (x16 && (x19 && (x22 && (x25 && (x28 && (x29 && (x31 == x31 && (x32 == x32 && (x33.1 == (kOperate n op).1.2.2.1 && (x34.1 == false && (x35.1 == false && (x36.1 == (kOperate n op).1.2.2.2.2.2.1 && (x37.1 == (kOperate n op).1.2.2.2.2.2.2.1 && (x38.1 == (kOperate n op).1.2.2.2.2.2.2.2.1 && (x39.1 == (kOperate n op).1.2.2.2.2.2.2.2.2.1 && (x40.1 == (kOperate n op).1.2.2.2.2.2.2.2.2.2.1 && (x41.1 == x42.1 && (x43.1 == x44.1 && (x43.2 == x44.2 && true))))))))))))))))))))))))))) && kKnown)))
     (.br (bif (rDecode (kOperate n op).1.1 op).1 == 2 then (rDecode (kOperate n op).1.1 op).1 == 2 else bif (rDecode (kOperate n op).1.1 op).1 == 3 then (rDecode (kOperate n op).1.1 op).1 == 3 else bif (rDecode (kOperate n op).1.1 op).1 == 4 then (rDecode (kOperate n op).1.1 op).1 == 4 else bif (rDecode (kOperate n op).1.1 op).1 == 5 then (rDecode (kOperate n op).1.1 op).1 == 5 else bif (rDecode (kOperate n op).1.1 op).1 == 7 then (rDecode (kOperate n op).1.1 op).1 == 7 else bif (rDecode (kOperate n op).1.1 op).1 == 47 then (rDecode (kOperate n op).1.1 op).1 == 47 else bif (rDecode (kOperate n op).1.1 op).1 == 9 then (rDecode (kOperate n op).1.1 op).1 == 9 else bif (rDecode (kOperate n op).1.1 op).1 == 33 then (rDecode (kOperate n op).1.1 op).1 == 33 else bif (rDecode (kOperate n op).1.1 op).1 == 11 then (rDecode (kOperate n op).1.1 op).1 == 11 else bif (rDecode (kOperate n op).1.1 op).1 == 32 then (rDecode (kOperate n op).1.1 op).1 == 32 else bif (rDecode (kOperate n op).1.1 op).1 == 20 then (rDecode (kOperate n op).1.1 op).1 == 20 else bif (rDecode (kOperate n op).1.1 op).1 == 43 then (rDecode (kOperate n op).1.1 op).1 == 43 else bif (rDecode (kOperate n op).1.1 op).1 == 44 then (rDecode (kOperate n op).1.1 op).1 == 44 else bif (rDecode (kOperate n op).1.1 op).1 == 38 then (rDecode (kOperate n op).1.1 op).1 == 38 else bif (rDecode (kOperate n op).1.1 op).1 == 39 then (rDecode (kOperate n op).1.1 op).1 == 39 else bif (rDecode (kOperate n op).1.1 op).1 == 35 then (rDecode (kOperate n op).1.1 op).1 == 35 else bif (rDecode (kOperate n op).1.1 op).1 == 36 then (rDecode (kOperate n op).1.1 op).1 == 36 else (rDecode (kOperate n op).1.1 op).1 == 37)
      (.leaf (some (x13 && (x16 && (x19 && (x22 && (x25 && (x28 && (x29 && true)))))) && kKnown)))
      (.leaf (some (true))))))
   (.leaf none))

noncomputable def lMKeeps (n : List Int) (op : Int) (l : Bool × Bool × Bool × Bool × Bool × Bool × Bool × Bool × Bool) : Bool := getO lMKeepsRs.dflt (lMKeepsT n op l).val

noncomputable def lMKeepsC (n : List Int) (op : Int) (l : Bool × Bool × Bool × Bool × Bool × Bool × Bool × Bool × Bool) : Bool := okB (lMKeepsT n op l).val

noncomputable def lMKeepsE : Entry := pureE lMKeepsTs lMKeepsRs (fun a => some (lMKeepsC a.1 a.2.1 a.2.2)) (fun a => lMKeeps a.1 a.2.1 a.2.2)

theorem lMKeeps_ok : EntryOk Try.prog 12 lMKeepsE :=
  pure_part (P := Try.prog) (n := 1180592183667364728831) (k := 8) (l := [(23, rDecode1E), (28, kKnownE), (29, kOperateE), (32, pFinE), (33, rInternalE)]) (ol := []) ⟨rDecode1_ok, kKnown_ok, kOperate_ok, pFin_ok, rInternal_ok, trivial⟩ Try.func12 rfl (by kernel_rfl) Try.call12 trivial (ts := lMKeepsTs) (rs := lMKeepsRs) (t := fun a => lMKeepsT a.1 a.2.1 a.2.2) (fun a => by kernel_rfl)
end
end Go.Proofs.Ytiflfdlglncjlaa
