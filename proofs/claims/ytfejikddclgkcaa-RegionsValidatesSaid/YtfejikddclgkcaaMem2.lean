/-
  Contracts of functions; each found by the symbolic executor and checked by the kernel. Conditions: none.
-/
import Derived.Test.YtfejikddclgkcaaS3D
import Derived.Test.YtfejikddclgkcaaProg
import Derived.Test.YtfejikddclgkcaaMem1
set_option linter.unusedSimpArgs false
open Go Go.S3 Go.Proofs
set_option linter.unusedVariables false
set_option maxRecDepth 100000
namespace Go.Proofs.Ytfejikddclgkcaa
noncomputable section
abbrev rValidTs : List Sh := [Sh.one (R.sl (R.pair (R.int IntKind.u16) (R.int IntKind.u8)))]


abbrev rValidRs : Rs := Rs.one (Sh.one R.bool)


def rValidL0c : LS := { n := 34, slots := [(0, .code (Sh.one (R.sl (R.pair (R.int IntKind.u16) (R.int IntKind.u8))))), (2, .code (Sh.one R.bool)), (5, .code (Sh.one (R.int IntKind.i64))), (6, .code (Sh.one (R.int IntKind.i64)))], boxes := [], stgs := [] }


noncomputable def rValidL0T (a : List (Int × Int) × Bool × Int × Int × PUnit) : RT (Option (Go1 (List (Int × Int) × Bool × Int × Int × PUnit))) :=
  let x1 : Bool := (R.get (R.pair (R.int IntKind.u16) (R.int IntKind.u8)) a.1 a.2.2.2.1).2 == 0
  let x2 : Bool := !inRng a.2.2.2.1 (List.length a.1) || (x1 || (!decide (a.2.2.2.1 > 0) || (!inRng a.2.2.2.1 (List.length a.1) || inRng (IntKind.i64.wrap (a.2.2.2.1 - 1)) (List.length a.1))))
  let x3 : Bool := !x2
  let x4 : Bool := !inRng a.2.2.2.1 (List.length a.1) || (x1 || (!decide (a.2.2.2.1 > 0) || inRng a.2.2.2.1 (List.length a.1)))
  .br (decide (a.2.2.2.1 < a.2.2.1))
  (.br (x3 || (!x4 || inRng a.2.2.2.1 (List.length a.1)))
   (.br (x3 || x4)
    (.br (x2)
     (.br (x1 || decide (a.2.2.2.1 > 0) && decide ((R.get (R.pair (R.int IntKind.u16) (R.int IntKind.u8)) a.1 a.2.2.2.1).1 ≤ (R.get (R.pair (R.int IntKind.u16) (R.int IntKind.u8)) a.1 (IntKind.i64.wrap (a.2.2.2.1 - 1))).1))
      (.leaf (some (Go1.ret (a.1, false, a.2.2.1, a.2.2.2.1, PUnit.unit))))
      (.leaf (some (Go1.cont (a.1, a.2.1, a.2.2.1, IntKind.i64.wrap (a.2.2.2.1 + 1), PUnit.unit)))))
     (.leaf none))
    (.leaf none))
   (.leaf none))
  (.leaf (some (Go1.brk (a.1, a.2.1, a.2.2.1, a.2.2.2.1, PUnit.unit))))


noncomputable def rValidL0O : Ora := loopE true rValidL0c rValidL0T (fun a => 1000000000000)


theorem rValidL0_ok : OraOk (envX Try.prog [] [] 15 8) (.block 0 (.loop (bodyIn Try.f18.body 0))) rValidL0O :=
  loop_part (envX_ok (l := []) trivial [] 15 8) (loopsOk_bare (by kernel_rfl)) (fun a => by kernel_rfl)


noncomputable def rValidT (m : List (Int × Int)) : RT (Option (Bool)) :=
  let x1 : Option (Bool × List (Int × Int) × Bool × Int × Int × PUnit) := runF true rValidL0T (fun a => 1000000000000) (m, false, iN (List.length m), 0, ())
  let x2 : Bool × List (Int × Int) × Bool × Int × Int × PUnit := getO (false, m, false, iN (List.length m), 0, ()) x1
  .br (okB x1)
  (.br x2.1
   (.leaf (some x2.2.2.1))
   (.leaf (some (true))))
  (.leaf none)


noncomputable def rValid (m : List (Int × Int)) : Bool := getO rValidRs.dflt (rValidT m).val


noncomputable def rValidC (m : List (Int × Int)) : Bool := okB (rValidT m).val


noncomputable def rValidE : Entry := pureE rValidTs rValidRs (fun a => some (rValidC a)) (fun a => rValid a)


theorem rValid_ok : EntryOk Try.prog 18 rValidE :=
  pure_part (P := Try.prog) (n := 15) (k := 8) (l := []) (ol := [(0, rValidL0O)]) trivial Try.func18 rfl (by kernel_rfl) Try.call18 ⟨rValidL0_ok, trivial⟩ (ts := rValidTs) (rs := rValidRs) (t := fun a => rValidT a) (fun a => by kernel_rfl)


abbrev rGetMTs : List Sh := [Sh.one (R.sl (R.pair (R.int IntKind.u16) (R.int IntKind.u8))), Sh.one (R.int IntKind.u16)]


abbrev rGetMRs : Rs := Rs.one (Sh.one (R.int IntKind.u8))


def rGetML0c : LS := { n := 25, slots := [(0, .code (Sh.one (R.sl (R.pair (R.int IntKind.u16) (R.int IntKind.u8))))), (1, .code (Sh.one (R.int IntKind.u16))), (4, .code (Sh.one (R.int IntKind.u8))), (5, .code (Sh.one (R.int IntKind.i64)))], boxes := [], stgs := [] }


noncomputable def rGetML0T (a : List (Int × Int) × Int × Int × Int × PUnit) : RT (Option (Go1 (List (Int × Int) × Int × Int × Int × PUnit))) :=
  let x1 : Bool := (R.get (R.pair (R.int IntKind.u16) (R.int IntKind.u8)) a.1 a.2.2.2.1).1 == a.2.1
  .br (decide (a.2.2.2.1 ≥ 0))
  (.br (!inRng a.2.2.2.1 (List.length a.1) || (!x1 || inRng a.2.2.2.1 (List.length a.1)))
   (.br (inRng a.2.2.2.1 (List.length a.1))
    (.br (x1)
     (.leaf (some (Go1.ret (a.1, a.2.1, (R.get (R.pair (R.int IntKind.u16) (R.int IntKind.u8)) a.1 a.2.2.2.1).2, a.2.2.2.1, PUnit.unit))))
     (.leaf (some (Go1.cont (a.1, a.2.1, a.2.2.1, IntKind.i64.wrap (a.2.2.2.1 - 1), PUnit.unit)))))
    (.leaf none))
   (.leaf none))
  (.leaf (some (Go1.brk (a.1, a.2.1, a.2.2.1, a.2.2.2.1, PUnit.unit))))


noncomputable def rGetML0O : Ora := loopE true rGetML0c rGetML0T (fun a => 1000000000000)


theorem rGetML0_ok : OraOk (envX Try.prog [] [] 63 8) (.block 0 (.loop (bodyIn Try.f20.body 0))) rGetML0O :=
  loop_part (envX_ok (l := []) trivial [] 63 8) (loopsOk_bare (by kernel_rfl)) (fun a => by kernel_rfl)


noncomputable def rGetMT (m : List (Int × Int)) (t : Int) : RT (Option (Int)) :=
  let x1 : List (Int × Int) × Int × Int × Int × PUnit := (m, t, 0, IntKind.i64.wrap (iN (List.length m) - 1), ())
  let x2 : Option (Bool × List (Int × Int) × Int × Int × Int × PUnit) := runF true rGetML0T (fun a => 1000000000000) x1
  let x3 : Bool × List (Int × Int) × Int × Int × Int × PUnit := getO (false, x1) x2
  .br (okB x2)
  (.br x3.1
   (.leaf (some x3.2.2.2.1))
   (.leaf (some (0))))
  (.leaf none)


noncomputable def rGetM (m : List (Int × Int)) (t : Int) : Int := getO rGetMRs.dflt (rGetMT m t).val


noncomputable def rGetMC (m : List (Int × Int)) (t : Int) : Bool := okB (rGetMT m t).val


noncomputable def rGetME : Entry := pureE rGetMTs rGetMRs (fun a => some (rGetMC a.1 a.2)) (fun a => rGetM a.1 a.2)


theorem rGetM_ok : EntryOk Try.prog 20 rGetME :=
  pure_part (P := Try.prog) (n := 63) (k := 8) (l := []) (ol := [(0, rGetML0O)]) trivial Try.func20 rfl (by kernel_rfl) Try.call20 ⟨rGetML0_ok, trivial⟩ (ts := rGetMTs) (rs := rGetMRs) (t := fun a => rGetMT a.1 a.2) (fun a => by kernel_rfl)


abbrev rPut0Ts : List Sh := [Sh.one (R.sl (R.pair (R.int IntKind.u16) (R.int IntKind.u8))), Sh.agg (R.pair (R.int IntKind.u16) (R.int IntKind.u8))]


abbrev rPut0Rs : Rs := Rs.one (Sh.one (R.sl (R.pair (R.int IntKind.u16) (R.int IntKind.u8))))


def rPut0L0c : LS := { n := 53, slots := [(3, .fix (A.loc 0 0)), (5, .tip 0), (6, .code (Sh.one R.bool)), (9, .code (Sh.one (R.sl (R.pair (R.int IntKind.u16) (R.int IntKind.u8))))), (10, .code (Sh.one (R.int IntKind.i64))), (11, .code (Sh.one (R.int IntKind.i64)))], boxes := [[.many (R.pair (R.int IntKind.u16) (R.int IntKind.u8))]], stgs := [⟨(R.pair (R.int IntKind.u16) (R.int IntKind.u8)), 42, true⟩] }


noncomputable def rPut0L0T (a : Bool × List (Int × Int) × Int × Int × (Int × Int) × List (Int × Int) × PUnit) : RT (Option (Go1 (Bool × List (Int × Int) × Int × Int × (Int × Int) × List (Int × Int) × PUnit))) :=
  let x1 : Int × Int := R.get (R.pair (R.int IntKind.u16) (R.int IntKind.u8)) a.2.1 a.2.2.2.1
  let x2 : Int := x1.1
  let x3 : Bool := !a.1 && decide (x2 ≥ a.2.2.2.2.1.1)
  let x4 : List (Int × Int) := a.2.2.2.2.2.1 ++ [a.2.2.2.2.1]
  let x5 : Bool := !x3 || (!a.2.2.2.2.1.2 != 0 || Nat.ble (List.length x4) most)
  let x6 : Bool := x2 != a.2.2.2.2.1.1
  let x7 : List (Int × Int) := bif x3 then bif a.2.2.2.2.1.2 != 0 then x4 else a.2.2.2.2.2.1 else a.2.2.2.2.2.1
  let x8 : List (Int × Int) := x7 ++ [x1]
  .br (decide (a.2.2.2.1 < a.2.2.1))
  (.br (!inRng a.2.2.2.1 (List.length a.2.1) || (!x5 || (!x6 || Nat.ble (List.length x8) most)))
   (.br (!inRng a.2.2.2.1 (List.length a.2.1) || x5)
    (.br (inRng a.2.2.2.1 (List.length a.2.1))
     (.leaf (some (Go1.cont (x3 || a.1, a.2.1, a.2.2.1, IntKind.i64.wrap (a.2.2.2.1 + 1), a.2.2.2.2.1, bif x6 then x8 else x7, PUnit.unit))))
     (.leaf none))
    (.leaf none))
   (.leaf none))
  (.leaf (some (Go1.brk (a.1, a.2.1, a.2.2.1, a.2.2.2.1, a.2.2.2.2.1, a.2.2.2.2.2.1, PUnit.unit))))

noncomputable def rPut0L0O : Ora := loopE false rPut0L0c rPut0L0T (fun a => 1000000000000)

theorem rPut0L0_ok : OraOk (envX Try.prog [] [] 511 8) (.block 0 (.loop (bodyIn Try.f44.body 0))) rPut0L0O :=
  loop_part (envX_ok (l := []) trivial [] 511 8) (loopsOk_bare (by kernel_rfl)) (fun a => by kernel_rfl)

noncomputable def rPut0T (m : List (Int × Int)) (c : Int × Int) : RT (Option (List (Int × Int))) :=
  let x1 : Bool × List (Int × Int) × Int × Int × (Int × Int) × List (Int × Int) × PUnit := (false, m, iN (List.length m), 0, c, [], ())
  let x2 : Option (Bool × Bool × List (Int × Int) × Int × Int × (Int × Int) × List (Int × Int) × PUnit) := runF false rPut0L0T (fun a => 1000000000000) x1
  let x3 : Bool × List (Int × Int) × Int × Int × (Int × Int) × List (Int × Int) × PUnit := (getO (false, x1) x2).2
  let x4 : (Int × Int) × List (Int × Int) × PUnit := x3.2.2.2.2
  let x5 : Int × Int := x4.1
  let x6 : Bool := !x3.1 && x5.2 != 0
  let x7 : List (Int × Int) := x4.2.1
  let x8 : List (Int × Int) := x7 ++ [x5]
  .br (okB x2)
  (.br (!x6 || Nat.ble (List.length x8) most)
   (.leaf (some (bif x6 then x8 else x7)))
   (.leaf none))
  (.leaf none)

noncomputable def rPut0 (m : List (Int × Int)) (c : Int × Int) : List (Int × Int) := getO rPut0Rs.dflt (rPut0T m c).val

noncomputable def rPut0C (m : List (Int × Int)) (c : Int × Int) : Bool := okB (rPut0T m c).val

noncomputable def rPut0E : Entry := pureE rPut0Ts rPut0Rs (fun a => some (rPut0C a.1 a.2)) (fun a => rPut0 a.1 a.2)

theorem rPut0_ok : EntryOk Try.prog 44 rPut0E :=
  pure_part (P := Try.prog) (n := 511) (k := 8) (l := []) (ol := [(0, rPut0L0O)]) trivial Try.func44 rfl (by kernel_rfl) Try.call44 ⟨rPut0L0_ok, trivial⟩ (ts := rPut0Ts) (rs := rPut0Rs) (t := fun a => rPut0T a.1 a.2) (fun a => by kernel_rfl)

abbrev rNormTs : List Sh := [Sh.one (R.sl (R.pair (R.int IntKind.u16) (R.int IntKind.u8)))]


abbrev rNormRs : Rs := Rs.one (Sh.one (R.sl (R.pair (R.int IntKind.u16) (R.int IntKind.u8))))


def rNormL0c : LS := { n := 21, slots := [(3, .code (Sh.one (R.sl (R.pair (R.int IntKind.u16) (R.int IntKind.u8))))), (10, .code (Sh.one (R.sl (R.pair (R.int IntKind.u16) (R.int IntKind.u8))))), (11, .code (Sh.one (R.int IntKind.i64))), (12, .code (Sh.one (R.int IntKind.i64)))], boxes := [], stgs := [] }


noncomputable def rNormL0T (a : List (Int × Int) × List (Int × Int) × Int × Int × PUnit) : RT (Option (Go1 (List (Int × Int) × List (Int × Int) × Int × Int × PUnit))) :=
  let x1 : Int × Int := R.get (R.pair (R.int IntKind.u16) (R.int IntKind.u8)) a.2.1 a.2.2.2.1
  .br (decide (a.2.2.2.1 < a.2.2.1))
  (.br (!inRng a.2.2.2.1 (List.length a.2.1) || rPut0C a.1 x1)
   (.br (inRng a.2.2.2.1 (List.length a.2.1))
    (.leaf (some (Go1.cont (rPut0 a.1 x1, a.2.1, a.2.2.1, IntKind.i64.wrap (a.2.2.2.1 + 1), PUnit.unit))))
    (.leaf none))
   (.leaf none))
  (.leaf (some (Go1.brk (a.1, a.2.1, a.2.2.1, a.2.2.2.1, PUnit.unit))))


noncomputable def rNormL0O : Ora := loopE false rNormL0c rNormL0T (fun a => 1000000000000)


theorem rNormL0_ok : OraOk (envX Try.prog [(18, rValidE), (44, rPut0E)] [] 63 8) (.block 0 (.loop (bodyIn Try.f16.body 0))) rNormL0O :=
  loop_part (envX_ok (l := [(18, rValidE), (44, rPut0E)]) ⟨rValid_ok, rPut0_ok, trivial⟩ [] 63 8) (loopsOk_bare (by kernel_rfl)) (fun a => by kernel_rfl)


noncomputable def rNormT (l : List (Int × Int)) : RT (Option (List (Int × Int))) :=
  let x1 : Option (Bool × List (Int × Int) × List (Int × Int) × Int × Int × PUnit) := runF false rNormL0T (fun a => 1000000000000) ([], l, iN (List.length l), 0, ())
  .br (rValidC l)
  (.br (!rValid l || Nat.ble (List.length ([] ++ l)) most)
   (.br (rValid l)
    (.leaf (some ([] ++ l)))
    (.br (okB x1)
     (.leaf (some (getO (false, [], l, iN (List.length l), 0, ()) x1).2.1))
     (.leaf none)))
   (.leaf none))
  (.leaf none)


noncomputable def rNorm (l : List (Int × Int)) : List (Int × Int) := getO rNormRs.dflt (rNormT l).val


noncomputable def rNormC (l : List (Int × Int)) : Bool := okB (rNormT l).val


noncomputable def rNormE : Entry := pureE rNormTs rNormRs (fun a => some (rNormC a)) (fun a => rNorm a)


theorem rNorm_ok : EntryOk Try.prog 16 rNormE :=
  pure_part (P := Try.prog) (n := 63) (k := 8) (l := [(18, rValidE), (44, rPut0E)]) (ol := [(0, rNormL0O)]) ⟨rValid_ok, rPut0_ok, trivial⟩ Try.func16 rfl (by kernel_rfl) Try.call16 ⟨rNormL0_ok, trivial⟩ (ts := rNormTs) (rs := rNormRs) (t := fun a => rNormT a) (fun a => by kernel_rfl)


abbrev rPutMTs : List Sh := [Sh.one (R.sl (R.pair (R.int IntKind.u16) (R.int IntKind.u8))), Sh.one (R.int IntKind.u16), Sh.one (R.int IntKind.u8)]


abbrev rPutMRs : Rs := Rs.one (Sh.one (R.sl (R.pair (R.int IntKind.u16) (R.int IntKind.u8))))


noncomputable def rPutMT (m : List (Int × Int)) (t : Int) (v : Int) : RT (Option (List (Int × Int))) :=
  .br (!rNormC m || rPut0C (rNorm m) (t, v))
  (.br (rNormC m)
   (.leaf (some (rPut0 (rNorm m) (t, v))))
   (.leaf none))
  (.leaf none)


noncomputable def rPutM (m : List (Int × Int)) (t : Int) (v : Int) : List (Int × Int) := getO rPutMRs.dflt (rPutMT m t v).val


noncomputable def rPutMC (m : List (Int × Int)) (t : Int) (v : Int) : Bool := okB (rPutMT m t v).val


noncomputable def rPutME : Entry := pureE rPutMTs rPutMRs (fun a => some (rPutMC a.1 a.2.1 a.2.2)) (fun a => rPutM a.1 a.2.1 a.2.2)


theorem rPutM_ok : EntryOk Try.prog 24 rPutME :=
  pure_part (P := Try.prog) (n := 127) (k := 8) (l := [(16, rNormE), (44, rPut0E)]) (ol := []) ⟨rNorm_ok, rPut0_ok, trivial⟩ Try.func24 rfl (by kernel_rfl) Try.call24 trivial (ts := rPutMTs) (rs := rPutMRs) (t := fun a => rPutMT a.1 a.2.1 a.2.2) (fun a => by kernel_rfl)


abbrev rLoadTs : List Sh := [Sh.one (R.int IntKind.u16), Sh.one (R.sl (R.int IntKind.u8))]


abbrev rLoadRs : Rs := Rs.one (Sh.one (R.sl (R.pair (R.int IntKind.u16) (R.int IntKind.u8))))


def rLoadL0c : LS := { n := 27, slots := [(0, .code (Sh.one (R.int IntKind.u16))), (1, .code (Sh.one (R.sl (R.int IntKind.u8)))), (5, .tip 0), (8, .code (Sh.one (R.int IntKind.i64))), (9, .code (Sh.one (R.int IntKind.i64)))], boxes := [], stgs := [⟨(R.pair (R.int IntKind.u16) (R.int IntKind.u8)), 42, true⟩] }


noncomputable def rLoadL0T (a : Int × List Int × Int × Int × List (Int × Int) × PUnit) : RT (Option (Go1 (Int × List Int × Int × Int × List (Int × Int) × PUnit))) :=
  let x1 : List (Int × Int) := a.2.2.2.2.1 ++ [(IntKind.u16.wrap (a.1 + IntKind.u16.wrap a.2.2.2.1), R.get (R.int IntKind.u8) a.2.1 a.2.2.2.1)]
  let x2 : Bool := !inRng a.2.2.2.1 (List.length a.2.1) || Nat.ble (List.length x1) most
  .br (decide (a.2.2.2.1 < a.2.2.1))
  (.br (!x2 || inRng a.2.2.2.1 (List.length a.2.1))
   (.br (x2)
    (.leaf (some (Go1.cont (a.1, a.2.1, a.2.2.1, IntKind.i64.wrap (a.2.2.2.1 + 1), x1, PUnit.unit))))
    (.leaf none))
   (.leaf none))
  (.leaf (some (Go1.brk (a.1, a.2.1, a.2.2.1, a.2.2.2.1, a.2.2.2.2.1, PUnit.unit))))

noncomputable def rLoadL0O : Ora := loopE false rLoadL0c rLoadL0T (fun a => 1000000000000)

theorem rLoadL0_ok : OraOk (envX Try.prog [(16, rNormE)] [] 127 8) (.block 0 (.loop (bodyIn Try.f26.body 0))) rLoadL0O :=
  loop_part (envX_ok (l := [(16, rNormE)]) ⟨rNorm_ok, trivial⟩ [] 127 8) (loopsOk_bare (by kernel_rfl)) (fun a => by kernel_rfl)

noncomputable def rLoadT (t : Int) (b : List Int) : RT (Option (List (Int × Int))) :=
  let x1 : Option (Bool × Int × List Int × Int × Int × List (Int × Int) × PUnit) := runF false rLoadL0T (fun a => 1000000000000) (t, b, iN (List.length b), 0, [], ())
  let x2 : List (Int × Int) := (getO (false, t, b, iN (List.length b), 0, [], ()) x1).2.2.2.2.2.1
  .br (okB x1)
  (.br (rNormC x2)
   (.leaf (some (rNorm x2)))
   (.leaf none))
  (.leaf none)

noncomputable def rLoad (t : Int) (b : List Int) : List (Int × Int) := getO rLoadRs.dflt (rLoadT t b).val

noncomputable def rLoadC (t : Int) (b : List Int) : Bool := okB (rLoadT t b).val

noncomputable def rLoadE : Entry := pureE rLoadTs rLoadRs (fun a => some (rLoadC a.1 a.2)) (fun a => rLoad a.1 a.2)

theorem rLoad_ok : EntryOk Try.prog 26 rLoadE :=
  pure_part (P := Try.prog) (n := 127) (k := 8) (l := [(16, rNormE)]) (ol := [(0, rLoadL0O)]) ⟨rNorm_ok, trivial⟩ Try.func26 rfl (by kernel_rfl) Try.call26 ⟨rLoadL0_ok, trivial⟩ (ts := rLoadTs) (rs := rLoadRs) (t := fun a => rLoadT a.1 a.2) (fun a => by kernel_rfl)

abbrev rSameMTs : List Sh := [Sh.one (R.sl (R.pair (R.int IntKind.u16) (R.int IntKind.u8))), Sh.one (R.sl (R.pair (R.int IntKind.u16) (R.int IntKind.u8)))]


abbrev rSameMRs : Rs := Rs.one (Sh.one R.bool)


def rSameML0c : LS := { n := 26, slots := [(0, .code (Sh.one (R.sl (R.pair (R.int IntKind.u16) (R.int IntKind.u8))))), (1, .code (Sh.one (R.sl (R.pair (R.int IntKind.u16) (R.int IntKind.u8))))), (4, .code (Sh.one R.bool)), (12, .code (Sh.one (R.int IntKind.i64))), (13, .code (Sh.one (R.int IntKind.i64)))], boxes := [], stgs := [] }


noncomputable def rSameML0T (a : List (Int × Int) × List (Int × Int) × Bool × Int × Int × PUnit) : RT (Option (Go1 (List (Int × Int) × List (Int × Int) × Bool × Int × Int × PUnit))) :=
  let x1 : Bool := !inRng a.2.2.2.2.1 (List.length a.1) || inRng a.2.2.2.2.1 (List.length a.2.1)
  let x2 : Int × Int := R.get (R.pair (R.int IntKind.u16) (R.int IntKind.u8)) a.1 a.2.2.2.2.1
  let x3 : Int × Int := R.get (R.pair (R.int IntKind.u16) (R.int IntKind.u8)) a.2.1 a.2.2.2.2.1
  let x4 : Int × Int × PUnit := (a.2.2.2.1, a.2.2.2.2.1, PUnit.unit)
  .br (decide (a.2.2.2.2.1 < a.2.2.2.1))
  (.br (!x1 || inRng a.2.2.2.2.1 (List.length a.1))
   (.br (x1)
    (.br (!(x2.1 == x3.1 && (x2.2 == x3.2 && true)))
     (.leaf (some (Go1.ret (a.1, a.2.1, false, x4))))
     (.leaf (some (Go1.cont (a.1, a.2.1, a.2.2.1, a.2.2.2.1, IntKind.i64.wrap (a.2.2.2.2.1 + 1), PUnit.unit)))))
    (.leaf none))
   (.leaf none))
  (.leaf (some (Go1.brk (a.1, a.2.1, a.2.2.1, x4))))


noncomputable def rSameML0O : Ora := loopE true rSameML0c rSameML0T (fun a => 1000000000000)


theorem rSameML0_ok : OraOk (envX Try.prog [] [] 63 8) (.block 0 (.loop (bodyIn Try.f21.body 0))) rSameML0O :=
  loop_part (envX_ok (l := []) trivial [] 63 8) (loopsOk_bare (by kernel_rfl)) (fun a => by kernel_rfl)


noncomputable def rSameMT (a : List (Int × Int)) (b : List (Int × Int)) : RT (Option (Bool)) :=
  let x1 : Option (Bool × List (Int × Int) × List (Int × Int) × Bool × Int × Int × PUnit) := runF true rSameML0T (fun a_1 => 1000000000000) (a, b, false, iN (List.length a), 0, ())
  let x2 : Bool × List (Int × Int) × List (Int × Int) × Bool × Int × Int × PUnit := getO (false, a, b, false, iN (List.length a), 0, ()) x1
  .br (iN (List.length a) != iN (List.length b))
  (.leaf (some (false)))
  (.br (okB x1)
   (.br x2.1
    (.leaf (some x2.2.2.2.1))
    (.leaf (some (true))))
   (.leaf none))


noncomputable def rSameM (a : List (Int × Int)) (b : List (Int × Int)) : Bool := getO rSameMRs.dflt (rSameMT a b).val


noncomputable def rSameMC (a : List (Int × Int)) (b : List (Int × Int)) : Bool := okB (rSameMT a b).val


noncomputable def rSameME : Entry := pureE rSameMTs rSameMRs (fun a => some (rSameMC a.1 a.2)) (fun a => rSameM a.1 a.2)


theorem rSameM_ok : EntryOk Try.prog 21 rSameME :=
  pure_part (P := Try.prog) (n := 63) (k := 8) (l := []) (ol := [(0, rSameML0O)]) trivial Try.func21 rfl (by kernel_rfl) Try.call21 ⟨rSameML0_ok, trivial⟩ (ts := rSameMTs) (rs := rSameMRs) (t := fun a => rSameMT a.1 a.2) (fun a => by kernel_rfl)


abbrev rFindTs : List Sh := [Sh.one (R.sl (R.pair (R.int IntKind.u16) (R.pair (R.int IntKind.u16) (R.pair R.bool (R.int IntKind.i64))))), Sh.one (R.int IntKind.u16)]


abbrev rFindRs : Rs := Rs.one (Sh.one (R.int IntKind.i64))


def rFindL0c : LS := { n := 26, slots := [(1, .code (Sh.one (R.int IntKind.u16))), (4, .code (Sh.one (R.int IntKind.i64))), (7, .code (Sh.one (R.sl (R.pair (R.int IntKind.u16) (R.pair (R.int IntKind.u16) (R.pair R.bool (R.int IntKind.i64))))))), (8, .code (Sh.one (R.int IntKind.i64))), (9, .code (Sh.one (R.int IntKind.i64)))], boxes := [], stgs := [] }


noncomputable def rFindL0T (a : Int × Int × List (Int × Int × Bool × Int) × Int × Int × PUnit) : RT (Option (Go1 (Int × Int × List (Int × Int × Bool × Int) × Int × Int × PUnit))) :=
  let x1 : Int × Int × Bool × Int := R.get (R.pair (R.int IntKind.u16) (R.pair (R.int IntKind.u16) (R.pair R.bool (R.int IntKind.i64)))) a.2.2.1 a.2.2.2.2.1
  let x2 : List (Int × Int × Bool × Int) × Int × Int × PUnit := (a.2.2.1, a.2.2.2.1, a.2.2.2.2.1, PUnit.unit)
  .br (decide (a.2.2.2.2.1 < a.2.2.2.1))
  (.br (inRng a.2.2.2.2.1 (List.length a.2.2.1))
   (.br (decide (x1.1 ≤ a.1) && decide (a.1 ≤ x1.2.1))
    (.leaf (some (Go1.ret (a.1, a.2.2.2.2.1, x2))))
    (.leaf (some (Go1.cont (a.1, a.2.1, a.2.2.1, a.2.2.2.1, IntKind.i64.wrap (a.2.2.2.2.1 + 1), PUnit.unit)))))
   (.leaf none))
  (.leaf (some (Go1.brk (a.1, a.2.1, x2))))


noncomputable def rFindL0O : Ora := loopE true rFindL0c rFindL0T (fun a => 1000000000000)


theorem rFindL0_ok : OraOk (envX Try.prog [] [] 127 8) (.block 0 (.loop (bodyIn Try.f31.body 0))) rFindL0O :=
  loop_part (envX_ok (l := []) trivial [] 127 8) (loopsOk_bare (by kernel_rfl)) (fun a => by kernel_rfl)


noncomputable def rFindT (l : List (Int × Int × Bool × Int)) (t : Int) : RT (Option (Int)) :=
  let x1 : Option (Bool × Int × Int × List (Int × Int × Bool × Int) × Int × Int × PUnit) := runF true rFindL0T (fun a => 1000000000000) (t, 0, l, iN (List.length l), 0, ())
  let x2 : Bool × Int × Int × List (Int × Int × Bool × Int) × Int × Int × PUnit := getO (false, t, 0, l, iN (List.length l), 0, ()) x1
  .br (okB x1)
  (.br x2.1
   (.leaf (some x2.2.2.1))
   (.leaf (some (-1))))
  (.leaf none)


noncomputable def rFind (l : List (Int × Int × Bool × Int)) (t : Int) : Int := getO rFindRs.dflt (rFindT l t).val


noncomputable def rFindC (l : List (Int × Int × Bool × Int)) (t : Int) : Bool := okB (rFindT l t).val


noncomputable def rFindE : Entry := pureE rFindTs rFindRs (fun a => some (rFindC a.1 a.2)) (fun a => rFind a.1 a.2)


theorem rFind_ok : EntryOk Try.prog 31 rFindE :=
  pure_part (P := Try.prog) (n := 127) (k := 8) (l := []) (ol := [(0, rFindL0O)]) trivial Try.func31 rfl (by kernel_rfl) Try.call31 ⟨rFindL0_ok, trivial⟩ (ts := rFindTs) (rs := rFindRs) (t := fun a => rFindT a.1 a.2) (fun a => by kernel_rfl)


abbrev rReadMTs : List Sh := [Sh.one (R.sl (R.pair (R.int IntKind.u16) (R.pair (R.int IntKind.u16) (R.pair R.bool (R.int IntKind.i64))))), Sh.one (R.sl (R.pair (R.int IntKind.u16) (R.int IntKind.u8))), Sh.one (R.int IntKind.u16)]


abbrev rReadMRs : Rs := Rs.one (Sh.one (R.int IntKind.u8))


noncomputable def rReadMT (l : List (Int × Int × Bool × Int)) (m : List (Int × Int)) (t : Int) : RT (Option (Int)) :=
  .br (rFindC l t)
  (.br (decide (rFind l t < 0))
   (.leaf (some (255)))
   (.br (rGetMC m t)
    (.leaf (some (rGetM m t)))
    (.leaf none)))
  (.leaf none)


noncomputable def rReadM (l : List (Int × Int × Bool × Int)) (m : List (Int × Int)) (t : Int) : Int := getO rReadMRs.dflt (rReadMT l m t).val


noncomputable def rReadMC (l : List (Int × Int × Bool × Int)) (m : List (Int × Int)) (t : Int) : Bool := okB (rReadMT l m t).val


noncomputable def rReadME : Entry := pureE rReadMTs rReadMRs (fun a => some (rReadMC a.1 a.2.1 a.2.2)) (fun a => rReadM a.1 a.2.1 a.2.2)


theorem rReadM_ok : EntryOk Try.prog 33 rReadME :=
  pure_part (P := Try.prog) (n := 127) (k := 8) (l := [(20, rGetME), (31, rFindE)]) (ol := []) ⟨rGetM_ok, rFind_ok, trivial⟩ Try.func33 rfl (by kernel_rfl) Try.call33 trivial (ts := rReadMTs) (rs := rReadMRs) (t := fun a => rReadMT a.1 a.2.1 a.2.2) (fun a => by kernel_rfl)


abbrev rWriteMTs : List Sh := [Sh.one (R.sl (R.pair (R.int IntKind.u16) (R.pair (R.int IntKind.u16) (R.pair R.bool (R.int IntKind.i64))))), Sh.one (R.sl (R.pair (R.int IntKind.u16) (R.int IntKind.u8))), Sh.one (R.int IntKind.u16), Sh.one (R.int IntKind.u8)]


abbrev rWriteMRs : Rs := Rs.one (Sh.one (R.sl (R.pair (R.int IntKind.u16) (R.int IntKind.u8))))


noncomputable def rWriteMT (l : List (Int × Int × Bool × Int)) (m : List (Int × Int)) (t : Int) (v : Int) : RT (Option (List (Int × Int))) :=
  let x1 : Bool := decide (rFind l t ≥ 0) && (R.get (R.pair (R.int IntKind.u16) (R.pair (R.int IntKind.u16) (R.pair R.bool (R.int IntKind.i64)))) l (rFind l t)).2.2.1
  .br (rFindC l t)
  (.br (!decide (rFind l t ≥ 0) || inRng (rFind l t) (List.length l))
   (.br (!x1 || rPutMC m t v)
    (.br (x1)
     (.leaf (some (rPutM m t v)))
     (.br (rNormC m)
      (.leaf (some (rNorm m)))
      (.leaf none)))
    (.leaf none))
   (.leaf none))
  (.leaf none)


noncomputable def rWriteM (l : List (Int × Int × Bool × Int)) (m : List (Int × Int)) (t : Int) (v : Int) : List (Int × Int) := getO rWriteMRs.dflt (rWriteMT l m t v).val


noncomputable def rWriteMC (l : List (Int × Int × Bool × Int)) (m : List (Int × Int)) (t : Int) (v : Int) : Bool := okB (rWriteMT l m t v).val


noncomputable def rWriteME : Entry := pureE rWriteMTs rWriteMRs (fun a => some (rWriteMC a.1 a.2.1 a.2.2.1 a.2.2.2)) (fun a => rWriteM a.1 a.2.1 a.2.2.1 a.2.2.2)


theorem rWriteM_ok : EntryOk Try.prog 37 rWriteME :=
  pure_part (P := Try.prog) (n := 1023) (k := 8) (l := [(16, rNormE), (24, rPutME), (31, rFindE)]) (ol := []) ⟨rNorm_ok, rPutM_ok, rFind_ok, trivial⟩ Try.func37 rfl (by kernel_rfl) Try.call37 trivial (ts := rWriteMTs) (rs := rWriteMRs) (t := fun a => rWriteMT a.1 a.2.1 a.2.2.1 a.2.2.2) (fun a => by kernel_rfl)


abbrev pFindTs : List Sh := [Sh.one (R.sl (R.pair (R.int IntKind.u16) (R.pair (R.int IntKind.u16) (R.pair R.bool (R.int IntKind.i64))))), Sh.one (R.int IntKind.u16)]


abbrev pFindRs : Rs := Rs.one (Sh.one (R.int IntKind.i64))


def pFindL0c : LS := { n := 26, slots := [(1, .code (Sh.one (R.int IntKind.u16))), (4, .code (Sh.one (R.int IntKind.i64))), (7, .code (Sh.one (R.sl (R.pair (R.int IntKind.u16) (R.pair (R.int IntKind.u16) (R.pair R.bool (R.int IntKind.i64))))))), (8, .code (Sh.one (R.int IntKind.i64))), (9, .code (Sh.one (R.int IntKind.i64)))], boxes := [], stgs := [] }


noncomputable def pFindL0T (a : Int × Int × List (Int × Int × Bool × Int) × Int × Int × PUnit) : RT (Option (Go1 (Int × Int × List (Int × Int × Bool × Int) × Int × Int × PUnit))) :=
  let x1 : Int × Int × Bool × Int := R.get (R.pair (R.int IntKind.u16) (R.pair (R.int IntKind.u16) (R.pair R.bool (R.int IntKind.i64)))) a.2.2.1 a.2.2.2.2.1
  let x2 : List (Int × Int × Bool × Int) × Int × Int × PUnit := (a.2.2.1, a.2.2.2.1, a.2.2.2.2.1, PUnit.unit)
  .br (decide (a.2.2.2.2.1 < a.2.2.2.1))
  (.br (inRng a.2.2.2.2.1 (List.length a.2.2.1))
   (.br (decide (x1.1 ≤ a.1) && decide (a.1 ≤ x1.2.1))
    (.leaf (some (Go1.ret (a.1, a.2.2.2.2.1, x2))))
    (.leaf (some (Go1.cont (a.1, a.2.1, a.2.2.1, a.2.2.2.1, IntKind.i64.wrap (a.2.2.2.2.1 + 1), PUnit.unit)))))
   (.leaf none))
  (.leaf (some (Go1.brk (a.1, a.2.1, x2))))


noncomputable def pFindL0O : Ora := loopE true pFindL0c pFindL0T (fun a => 1000000000000)


theorem pFindL0_ok : OraOk (envX Try.prog [] [] 127 8) (.block 0 (.loop (bodyIn Try.f30.body 0))) pFindL0O :=
  loop_part (envX_ok (l := []) trivial [] 127 8) (loopsOk_bare (by kernel_rfl)) (fun a => by kernel_rfl)


noncomputable def pFindT (l : List (Int × Int × Bool × Int)) (t : Int) : RT (Option (Int)) :=
  let x1 : Option (Bool × Int × Int × List (Int × Int × Bool × Int) × Int × Int × PUnit) := runF true pFindL0T (fun a => 1000000000000) (t, 0, l, iN (List.length l), 0, ())
  let x2 : Bool × Int × Int × List (Int × Int × Bool × Int) × Int × Int × PUnit := getO (false, t, 0, l, iN (List.length l), 0, ()) x1
  .br (okB x1)
  (.br x2.1
   (.leaf (some x2.2.2.1))
   (.leaf (some (-1))))
  (.leaf none)


noncomputable def pFind (l : List (Int × Int × Bool × Int)) (t : Int) : Int := getO pFindRs.dflt (pFindT l t).val


noncomputable def pFindC (l : List (Int × Int × Bool × Int)) (t : Int) : Bool := okB (pFindT l t).val


noncomputable def pFindE : Entry := pureE pFindTs pFindRs (fun a => some (pFindC a.1 a.2)) (fun a => pFind a.1 a.2)


theorem pFind_ok : EntryOk Try.prog 30 pFindE :=
  pure_part (P := Try.prog) (n := 127) (k := 8) (l := []) (ol := [(0, pFindL0O)]) trivial Try.func30 rfl (by kernel_rfl) Try.call30 ⟨pFindL0_ok, trivial⟩ (ts := pFindTs) (rs := pFindRs) (t := fun a => pFindT a.1 a.2) (fun a => by kernel_rfl)


end
end Go.Proofs.Ytfejikddclgkcaa
