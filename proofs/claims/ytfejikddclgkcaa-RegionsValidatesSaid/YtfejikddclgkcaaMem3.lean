/-
  Contracts of functions; each found by the symbolic executor and checked by the kernel. Conditions: none.
-/
import Derived.Test.YtfejikddclgkcaaS3D
import Derived.Test.YtfejikddclgkcaaProg
import Derived.Test.YtfejikddclgkcaaPutP
import Derived.Test.YtfejikddclgkcaaMkOk
set_option linter.unusedSimpArgs false
open Go Go.S3 Go.Proofs
set_option linter.unusedVariables false
set_option maxRecDepth 100000
namespace Go.Proofs.Ytfejikddclgkcaa
noncomputable section
abbrev mLoadTs : List Sh := [Sh.one (R.int IntKind.u16), Sh.one (R.sl (R.int IntKind.u8))]

abbrev mLoadRs : Rs := Rs.one (Sh.one (R.sl (R.pair (R.int IntKind.u16) (R.int IntKind.u8))))

def mLoadL0c : LS := { n := 30, slots := [(0, .code (Sh.one (R.int IntKind.u16))), (5, .tip 0), (11, .code (Sh.one (R.sl (R.int IntKind.u8)))), (12, .code (Sh.one (R.int IntKind.i64))), (13, .code (Sh.one (R.int IntKind.i64)))], boxes := [], stgs := [⟨R.pair (R.int IntKind.u16) (R.int IntKind.u8), 42, true⟩] }


noncomputable def mLoadL0T (a : Int × List Int × Int × Int × List (Int × Int) × PUnit) : RT (Option (Go1 (Int × List Int × Int × Int × List (Int × Int) × PUnit))) :=
  let x1 : List (Int × Int) := a.2.2.2.2.1 ++ [(IntKind.u16.wrap (a.1 + IntKind.u16.wrap a.2.2.2.1), R.get (R.int IntKind.u8) a.2.1 a.2.2.2.1)]
  .br (decide (a.2.2.2.1 < a.2.2.1))
  (.br (!inRng a.2.2.2.1 (List.length a.2.1) || Nat.ble (List.length x1) most)
   (.br (inRng a.2.2.2.1 (List.length a.2.1))
    (.leaf (some (Go1.cont (a.1, a.2.1, a.2.2.1, IntKind.i64.wrap (a.2.2.2.1 + 1), x1, PUnit.unit))))
    (.leaf none))
   (.leaf none))
  (.leaf (some (Go1.brk (a.1, a.2.1, a.2.2.1, a.2.2.2.1, a.2.2.2.2.1, PUnit.unit))))

noncomputable def mLoadL0O : Ora := loopE false mLoadL0c mLoadL0T (fun a => 1000000000000)

theorem mLoadL0_ok : OraOk (envX Try.prog [(22, mNormE)] [] 255 8) (.block 0 (.loop (bodyIn Try.f25.body 0))) mLoadL0O :=
  loop_part (envX_ok (l := [(22, mNormE)]) ⟨mNorm_ok, trivial⟩ [] 255 8) (loopsOk_bare (by kernel_rfl)) (fun a => by kernel_rfl)

noncomputable def mLoadT (t : Int) (b : List Int) : RT (Option (List (Int × Int))) :=
  let x1 : Int × List Int × Int × Int × List (Int × Int) × PUnit := (t, b, iN (List.length b), 0, rep (0, 0) (Int.toNat 0), ())
  let x2 : Option (Bool × Int × List Int × Int × Int × List (Int × Int) × PUnit) := runF false mLoadL0T (fun a => 1000000000000) x1
  let x3 : List (Int × Int) := (getO (false, x1) x2).2.2.2.2.2.1
  .br (decide (0 ≤ 0) && decide (0 ≤ iN (List.length b)) && decide (iN (List.length b) ≤ iN most))
  (.br (okB x2)
   (.br (mNormC x3)
    (.leaf (some (mNorm x3)))
    (.leaf none))
   (.leaf none))
  (.leaf none)

noncomputable def mLoad (t : Int) (b : List Int) : List (Int × Int) := getO mLoadRs.dflt (mLoadT t b).val

noncomputable def mLoadC (t : Int) (b : List Int) : Bool := okB (mLoadT t b).val

noncomputable def mLoadE : Entry := pureE mLoadTs mLoadRs (fun a => some (mLoadC a.1 a.2)) (fun a => mLoad a.1 a.2)

theorem mLoad_ok : EntryOk Try.prog 25 mLoadE :=
  pure_part (P := Try.prog) (n := 255) (k := 8) (l := [(22, mNormE)]) (ol := [(0, mLoadL0O)]) ⟨mNorm_ok, trivial⟩ Try.func25 rfl (by kernel_rfl) Try.call25 ⟨mLoadL0_ok, trivial⟩ (ts := mLoadTs) (rs := mLoadRs) (t := fun a => mLoadT a.1 a.2) (fun a => by kernel_rfl)

abbrev pValidRTs : List Sh := [Sh.one (R.sl (R.pair (R.int IntKind.u16) (R.pair (R.int IntKind.u16) (R.pair R.bool (R.int IntKind.i64)))))]

abbrev pValidRRs : Rs := Rs.one (Sh.one (R.int IntKind.i64))

def pValidRL0c : LS := { n := 30, slots := [(2, .code (Sh.one (R.int IntKind.i64))), (8, .code (Sh.one (R.sl (R.pair (R.int IntKind.u16) (R.pair (R.int IntKind.u16) (R.pair R.bool (R.int IntKind.i64))))))), (9, .code (Sh.one (R.int IntKind.i64))), (10, .code (Sh.one (R.int IntKind.i64)))], boxes := [], stgs := [] }


noncomputable def pValidRL0T (a : Int × List (Int × Int × Bool × Int) × Int × Int × PUnit) : RT (Option (Go1 (Int × List (Int × Int × Bool × Int) × Int × Int × PUnit))) :=
  let x1 : Int × Int × Bool × Int := R.get (R.pair (R.int IntKind.u16) (R.pair (R.int IntKind.u16) (R.pair R.bool (R.int IntKind.i64)))) a.2.1 a.2.2.2.1
  let x2 : Int × Bool × Int := x1.2
  let x3 : Int := x2.2.2
  let x4 : List (Int × Int × Bool × Int) × Int × Int × PUnit := (a.2.1, a.2.2.1, a.2.2.2.1, PUnit.unit)
  .br (decide (a.2.2.2.1 < a.2.2.1))
  (.br (inRng a.2.2.2.1 (List.length a.2.1))
   (.br (decide (x2.1 < x1.1) || (decide (x3 < 0) || decide (x3 > 100)))
    (.leaf (some (Go1.ret (1, x4))))
    (.leaf (some (Go1.cont (a.1, a.2.1, a.2.2.1, IntKind.i64.wrap (a.2.2.2.1 + 1), PUnit.unit)))))
   (.leaf none))
  (.leaf (some (Go1.brk (a.1, x4))))

noncomputable def pValidRL0O : Ora := loopE true pValidRL0c pValidRL0T (fun a => 1000000000000)

theorem pValidRL0_ok : OraOk (envX Try.prog [] [] 31 8) (.block 0 (.loop (bodyIn Try.f41.body 0))) pValidRL0O :=
  loop_part (envX_ok (l := []) trivial [] 31 8) (loopsOk_bare (by kernel_rfl)) (fun a => by kernel_rfl)

noncomputable def pValidRT (l : List (Int × Int × Bool × Int)) : RT (Option (Int)) :=
  let x1 : Option (Bool × Int × List (Int × Int × Bool × Int) × Int × Int × PUnit) := runF true pValidRL0T (fun a => 1000000000000) (0, l, iN (List.length l), 0, ())
  let x2 : Bool × Int × List (Int × Int × Bool × Int) × Int × Int × PUnit := getO (false, 0, l, iN (List.length l), 0, ()) x1
  .br (decide (iN (List.length l) > 16))
  (.leaf (some (3)))
  (.br (okB x1)
   (.br x2.1
    (.leaf (some x2.2.1))
    (.leaf (some (0))))
   (.leaf none))

noncomputable def pValidR (l : List (Int × Int × Bool × Int)) : Int := getO pValidRRs.dflt (pValidRT l).val

noncomputable def pValidRC (l : List (Int × Int × Bool × Int)) : Bool := okB (pValidRT l).val

noncomputable def pValidRE : Entry := pureE pValidRTs pValidRRs (fun a => some (pValidRC a)) (fun a => pValidR a)

theorem pValidR_ok : EntryOk Try.prog 41 pValidRE :=
  pure_part (P := Try.prog) (n := 31) (k := 8) (l := []) (ol := [(0, pValidRL0O)]) trivial Try.func41 rfl (by kernel_rfl) Try.call41 ⟨pValidRL0_ok, trivial⟩ (ts := pValidRTs) (rs := pValidRRs) (t := fun a => pValidRT a) (fun a => by kernel_rfl)

abbrev pReadMTs : List Sh := [Sh.one (R.sl (R.pair (R.int IntKind.u16) (R.pair (R.int IntKind.u16) (R.pair R.bool (R.int IntKind.i64))))), Sh.one (R.sl (R.pair (R.int IntKind.u16) (R.int IntKind.u8))), Sh.one (R.int IntKind.u16)]

abbrev pReadMRs : Rs := Rs.one (Sh.one (R.int IntKind.u8))

noncomputable def pReadMT (l : List (Int × Int × Bool × Int)) (m : List (Int × Int)) (t : Int) : RT (Option (Int)) :=
  .br (pFindC l t)
  (.br (decide (pFind l t < 0))
   (.leaf (some (255)))
   (.br (Nat.ble (List.length m) most)
    (.leaf (some (Cells.getX m t)))
    (.leaf none)))
  (.leaf none)

noncomputable def pReadM (l : List (Int × Int × Bool × Int)) (m : List (Int × Int)) (t : Int) : Int := getO pReadMRs.dflt (pReadMT l m t).val

noncomputable def pReadMC (l : List (Int × Int × Bool × Int)) (m : List (Int × Int)) (t : Int) : Bool := okB (pReadMT l m t).val

noncomputable def pReadME : Entry := pureE pReadMTs pReadMRs (fun a => some (pReadMC a.1 a.2.1 a.2.2)) (fun a => pReadM a.1 a.2.1 a.2.2)

theorem pReadM_ok : EntryOk Try.prog 32 pReadME :=
  pure_part (P := Try.prog) (n := 127) (k := 8) (l := [(19, mGetE), (30, pFindE)]) (ol := []) ⟨mGet_ok, pFind_ok, trivial⟩ Try.func32 rfl (by kernel_rfl) Try.call32 trivial (ts := pReadMTs) (rs := pReadMRs) (t := fun a => pReadMT a.1 a.2.1 a.2.2) (fun a => by kernel_rfl)

abbrev pWriteMTs : List Sh := [Sh.one (R.sl (R.pair (R.int IntKind.u16) (R.pair (R.int IntKind.u16) (R.pair R.bool (R.int IntKind.i64))))), Sh.one (R.sl (R.pair (R.int IntKind.u16) (R.int IntKind.u8))), Sh.one (R.int IntKind.u16), Sh.one (R.int IntKind.u8)]

abbrev pWriteMRs : Rs := Rs.one (Sh.one (R.sl (R.pair (R.int IntKind.u16) (R.int IntKind.u8))))

noncomputable def pWriteMT (l : List (Int × Int × Bool × Int)) (m : List (Int × Int)) (t : Int) (v : Int) : RT (Option (List (Int × Int))) :=
  let x1 : Bool := decide (pFind l t ≥ 0) && (R.get (R.pair (R.int IntKind.u16) (R.pair (R.int IntKind.u16) (R.pair R.bool (R.int IntKind.i64)))) l (pFind l t)).2.2.1
  .br (pFindC l t)
  (.br (!decide (pFind l t ≥ 0) || inRng (pFind l t) (List.length l))
   (.br (!x1 || mPutC m t v)
    (.br (x1)
     (.leaf (some (mPut m t v)))
     (.br (mNormC m)
      (.leaf (some (mNorm m)))
      (.leaf none)))
    (.leaf none))
   (.leaf none))
  (.leaf none)

noncomputable def pWriteM (l : List (Int × Int × Bool × Int)) (m : List (Int × Int)) (t : Int) (v : Int) : List (Int × Int) := getO pWriteMRs.dflt (pWriteMT l m t v).val

noncomputable def pWriteMC (l : List (Int × Int × Bool × Int)) (m : List (Int × Int)) (t : Int) (v : Int) : Bool := okB (pWriteMT l m t v).val

noncomputable def pWriteME : Entry := pureE pWriteMTs pWriteMRs (fun a => some (pWriteMC a.1 a.2.1 a.2.2.1 a.2.2.2)) (fun a => pWriteM a.1 a.2.1 a.2.2.1 a.2.2.2)

theorem pWriteM_ok : EntryOk Try.prog 36 pWriteME :=
  pure_part (P := Try.prog) (n := 1023) (k := 8) (l := [(22, mNormE), (23, mPutE), (30, pFindE)]) (ol := []) ⟨mNorm_ok, mPut_ok, pFind_ok, trivial⟩ Try.func36 rfl (by kernel_rfl) Try.call36 trivial (ts := pWriteMTs) (rs := pWriteMRs) (t := fun a => pWriteMT a.1 a.2.1 a.2.2.1 a.2.2.2) (fun a => by kernel_rfl)

abbrev pWaitsRTs : List Sh := [Sh.one (R.sl (R.pair (R.int IntKind.u16) (R.pair (R.int IntKind.u16) (R.pair R.bool (R.int IntKind.i64))))), Sh.one (R.int IntKind.u16)]

abbrev pWaitsRRs : Rs := Rs.one (Sh.one (R.int IntKind.i64))

noncomputable def pWaitsRT (l : List (Int × Int × Bool × Int)) (t : Int) : RT (Option (Int)) :=
  let x1 : Int := (R.get (R.pair (R.int IntKind.u16) (R.pair (R.int IntKind.u16) (R.pair R.bool (R.int IntKind.i64)))) l (pFind l t)).2.2.2
  let x2 : Int := if 100 < x1 then 100 else x1
  .br (pFindC l t)
  (.br (decide (pFind l t < 0))
   (.leaf (some (0)))
   (.br (inRng (pFind l t) (List.length l))
    (.leaf (some (if x2 > 0 then x2 else 0)))
    (.leaf none)))
  (.leaf none)

noncomputable def pWaitsR (l : List (Int × Int × Bool × Int)) (t : Int) : Int := getO pWaitsRRs.dflt (pWaitsRT l t).val

noncomputable def pWaitsRC (l : List (Int × Int × Bool × Int)) (t : Int) : Bool := okB (pWaitsRT l t).val

noncomputable def pWaitsRE : Entry := pureE pWaitsRTs pWaitsRRs (fun a => some (pWaitsRC a.1 a.2)) (fun a => pWaitsR a.1 a.2)

theorem pWaitsR_ok : EntryOk Try.prog 34 pWaitsRE :=
  pure_part (P := Try.prog) (n := 63) (k := 8) (l := [(30, pFindE)]) (ol := []) ⟨pFind_ok, trivial⟩ Try.func34 rfl (by kernel_rfl) Try.call34 trivial (ts := pWaitsRTs) (rs := pWaitsRRs) (t := fun a => pWaitsRT a.1 a.2) (fun a => by kernel_rfl)

abbrev rLimitTs : List Sh := [Sh.one (R.int IntKind.i64)]


abbrev rLimitRs : Rs := Rs.one (Sh.one (R.int IntKind.i64))


noncomputable def rLimitT (n : Int) : RT (Int) :=
  .leaf (if (if 100 < n then 100 else n) > 0 then if 100 < n then 100 else n else 0)


noncomputable def rLimit (n : Int) : Int := (rLimitT n).val


noncomputable def rLimitE : Entry := pureE rLimitTs rLimitRs (fun _ => none) (fun a => rLimit a)


theorem rLimit_ok : EntryOk Try.prog 54 rLimitE :=
  pure_tot (P := Try.prog) (n := 7) (k := 8) (l := []) (ol := []) trivial Try.func54 rfl (by kernel_rfl) Try.call54 trivial (ts := rLimitTs) (rs := rLimitRs) (t := fun a => rLimitT a) (fun a => by kernel_rfl)


abbrev rWaitsTs : List Sh := [Sh.one (R.sl (R.pair (R.int IntKind.u16) (R.pair (R.int IntKind.u16) (R.pair R.bool (R.int IntKind.i64))))), Sh.one (R.int IntKind.u16)]


abbrev rWaitsRs : Rs := Rs.one (Sh.one (R.int IntKind.i64))


noncomputable def rWaitsT (l : List (Int × Int × Bool × Int)) (t : Int) : RT (Option (Int)) :=
  .br (rFindC l t)
  (.br (!decide (rFind l t ≥ 0) || inRng (rFind l t) (List.length l))
   (.br (decide (rFind l t ≥ 0))
    (.leaf (some (rLimit (R.get (R.pair (R.int IntKind.u16) (R.pair (R.int IntKind.u16) (R.pair R.bool (R.int IntKind.i64)))) l (rFind l t)).2.2.2)))
    (.leaf (some (0))))
   (.leaf none))
  (.leaf none)


noncomputable def rWaits (l : List (Int × Int × Bool × Int)) (t : Int) : Int := getO rWaitsRs.dflt (rWaitsT l t).val


noncomputable def rWaitsC (l : List (Int × Int × Bool × Int)) (t : Int) : Bool := okB (rWaitsT l t).val


noncomputable def rWaitsE : Entry := pureE rWaitsTs rWaitsRs (fun a => some (rWaitsC a.1 a.2)) (fun a => rWaits a.1 a.2)


theorem rWaits_ok : EntryOk Try.prog 35 rWaitsE :=
  pure_part (P := Try.prog) (n := 63) (k := 8) (l := [(31, rFindE), (54, rLimitE)]) (ol := []) ⟨rFind_ok, rLimit_ok, trivial⟩ Try.func35 rfl (by kernel_rfl) Try.call35 trivial (ts := rWaitsTs) (rs := rWaitsRs) (t := fun a => rWaitsT a.1 a.2) (fun a => by kernel_rfl)


abbrev rValidRTs : List Sh := [Sh.one (R.sl (R.pair (R.int IntKind.u16) (R.pair (R.int IntKind.u16) (R.pair R.bool (R.int IntKind.i64)))))]


abbrev rValidRRs : Rs := Rs.one (Sh.one (R.int IntKind.i64))


def rValidRL0c : LS := { n := 30, slots := [(2, .code (Sh.one (R.int IntKind.i64))), (8, .code (Sh.one (R.sl (R.pair (R.int IntKind.u16) (R.pair (R.int IntKind.u16) (R.pair R.bool (R.int IntKind.i64))))))), (9, .code (Sh.one (R.int IntKind.i64))), (10, .code (Sh.one (R.int IntKind.i64)))], boxes := [], stgs := [] }


noncomputable def rValidRL0T (a : Int × List (Int × Int × Bool × Int) × Int × Int × PUnit) : RT (Option (Go1 (Int × List (Int × Int × Bool × Int) × Int × Int × PUnit))) :=
  let x1 : Int × Int × Bool × Int := R.get (R.pair (R.int IntKind.u16) (R.pair (R.int IntKind.u16) (R.pair R.bool (R.int IntKind.i64)))) a.2.1 a.2.2.2.1
  let x2 : Int × Bool × Int := x1.2
  let x3 : Int := x2.2.2
  let x4 : List (Int × Int × Bool × Int) × Int × Int × PUnit := (a.2.1, a.2.2.1, a.2.2.2.1, PUnit.unit)
  .br (decide (a.2.2.2.1 < a.2.2.1))
  (.br (inRng a.2.2.2.1 (List.length a.2.1))
   (.br (decide (x2.1 < x1.1) || (decide (x3 < 0) || decide (x3 > 100)))
    (.leaf (some (Go1.ret (1, x4))))
    (.leaf (some (Go1.cont (a.1, a.2.1, a.2.2.1, IntKind.i64.wrap (a.2.2.2.1 + 1), PUnit.unit)))))
   (.leaf none))
  (.leaf (some (Go1.brk (a.1, x4))))


noncomputable def rValidRL0O : Ora := loopE true rValidRL0c rValidRL0T (fun a => 1000000000000)


theorem rValidRL0_ok : OraOk (envX Try.prog [] [] 31 8) (.block 0 (.loop (bodyIn Try.f42.body 0))) rValidRL0O :=
  loop_part (envX_ok (l := []) trivial [] 31 8) (loopsOk_bare (by kernel_rfl)) (fun a => by kernel_rfl)


noncomputable def rValidRT (l : List (Int × Int × Bool × Int)) : RT (Option (Int)) :=
  let x1 : Option (Bool × Int × List (Int × Int × Bool × Int) × Int × Int × PUnit) := runF true rValidRL0T (fun a => 1000000000000) (0, l, iN (List.length l), 0, ())
  let x2 : Bool × Int × List (Int × Int × Bool × Int) × Int × Int × PUnit := getO (false, 0, l, iN (List.length l), 0, ()) x1
  .br (decide (iN (List.length l) > 16))
  (.leaf (some (3)))
  (.br (okB x1)
   (.br x2.1
    (.leaf (some x2.2.1))
    (.leaf (some (0))))
   (.leaf none))


noncomputable def rValidR (l : List (Int × Int × Bool × Int)) : Int := getO rValidRRs.dflt (rValidRT l).val


noncomputable def rValidRC (l : List (Int × Int × Bool × Int)) : Bool := okB (rValidRT l).val


noncomputable def rValidRE : Entry := pureE rValidRTs rValidRRs (fun a => some (rValidRC a)) (fun a => rValidR a)


theorem rValidR_ok : EntryOk Try.prog 42 rValidRE :=
  pure_part (P := Try.prog) (n := 31) (k := 8) (l := []) (ol := [(0, rValidRL0O)]) trivial Try.func42 rfl (by kernel_rfl) Try.call42 ⟨rValidRL0_ok, trivial⟩ (ts := rValidRTs) (rs := rValidRRs) (t := fun a => rValidRT a) (fun a => by kernel_rfl)


abbrev nCellsRb : R := R.pair (R.sl (R.int IntKind.i64)) (R.int IntKind.i64)


abbrev nCellsTs : List Sh := [Sh.one (R.int IntKind.i64)]


abbrev nCellsRs : Rs := Rs.one (Sh.one (R.sl (R.pair (R.int IntKind.u16) (R.int IntKind.u8))))


def nCellsL0c : LS := { n := 24, slots := [(0, .fix (A.loc 0 0)), (5, .tip 0), (6, .code (Sh.one (R.int IntKind.i64)))], boxes := [[.many (R.pair (R.sl (R.int IntKind.i64)) (R.int IntKind.i64))]], stgs := [⟨(R.pair (R.int IntKind.u16) (R.int IntKind.u8)), 42, true⟩] }


noncomputable def nCellsL0T (a : Int × (List Int × Int) × List (Int × Int) × PUnit) : RT (Option (Go1 (Int × (List Int × Int) × List (Int × Int) × PUnit))) :=
  let x1 : List (Int × Int) := a.2.2.1 ++ [((nWord a.2.1).1, (nByte (nWord a.2.1).2).1)]
  let x2 : Bool := !nWordC a.2.1 || (!nByteC (nWord a.2.1).2 || Nat.ble (List.length x1) most)
  let x3 : Bool := !x2
  .br (decide (a.1 > 0))
  (.br (x3 || (!(!nWordC a.2.1 || nByteC (nWord a.2.1).2) || nWordC a.2.1))
   (.br (x3 || (!nWordC a.2.1 || nByteC (nWord a.2.1).2))
    (.br (x2)
     (.leaf (some (Go1.cont (IntKind.i64.wrap (a.1 - 1), (nByte (nWord a.2.1).2).2, x1, PUnit.unit))))
     (.leaf none))
    (.leaf none))
   (.leaf none))
  (.leaf (some (Go1.brk (a.1, a.2.1, a.2.2.1, PUnit.unit))))

noncomputable def nCellsL0O : Ora := loopE false nCellsL0c nCellsL0T (fun a => 400)

theorem nCellsL0_ok : OraOk (envX Try.prog [(29, nWordE), (39, nNextE), (43, nByteE)] [] 127 8) (.block 0 (.loop (bodyIn Try.f14.body 0))) nCellsL0O :=
  loop_part (envX_ok (l := [(29, nWordE), (39, nNextE), (43, nByteE)]) ⟨nWord_ok, nNext_ok, nByte_ok, trivial⟩ [] 127 8) (loopsOk_bare (by kernel_rfl)) (fun a => by kernel_rfl)

noncomputable def nCellsT (s : List Int × Int) (n : Int) : RT (Option (List (Int × Int) × List Int × Int)) :=
  let x1 : Int × (List Int × Int) × List (Int × Int) × PUnit := ((nNext s (IntKind.i64.wrap (n + 1))).1, (nNext s (IntKind.i64.wrap (n + 1))).2, [], ())
  let x2 : Option (Bool × Int × (List Int × Int) × List (Int × Int) × PUnit) := runF false nCellsL0T (fun a => 400) x1
  let x3 : (List Int × Int) × List (Int × Int) × PUnit := (getO (false, x1) x2).2.2
  .br (nNextC s (IntKind.i64.wrap (n + 1)))
  (.br (okB x2)
   (.leaf (some ((x3.2.1, x3.1))))
   (.leaf none))
  (.leaf none)

noncomputable def nCells (s : List Int × Int) (n : Int) : List (Int × Int) × List Int × Int := getO (nCellsRs.dflt, nCellsRb.dflt) (nCellsT s n).val

noncomputable def nCellsC (s : List Int × Int) (n : Int) : Bool := okB (nCellsT s n).val

noncomputable def nCellsE : Entry := boxE nCellsRb nCellsTs nCellsRs (fun a => some (nCellsC a.1 a.2)) (fun a => nCells a.1 a.2)

theorem nCells_ok : EntryOk Try.prog 14 nCellsE :=
  box_part (P := Try.prog) (n := 127) (k := 8) (l := [(29, nWordE), (39, nNextE), (43, nByteE)]) (ol := [(0, nCellsL0O)]) ⟨nWord_ok, nNext_ok, nByte_ok, trivial⟩ Try.func14 rfl (by kernel_rfl) Try.call14 ⟨nCellsL0_ok, trivial⟩ (rb := nCellsRb) (ts := nCellsTs) (rs := nCellsRs) (t := fun a => nCellsT a.1 a.2) (fun a => by kernel_rfl)

abbrev nRegionsBRb : R := R.pair (R.sl (R.int IntKind.i64)) (R.int IntKind.i64)

abbrev nRegionsBTs : List Sh := [Sh.one (R.int IntKind.i64)]

abbrev nRegionsBRs : Rs := Rs.one (Sh.one (R.sl (R.pair (R.int IntKind.u16) (R.pair (R.int IntKind.u16) (R.pair R.bool (R.int IntKind.i64))))))

def nRegionsBL0c : LS := { n := 44, slots := [(0, .fix (A.loc 0 0)), (5, .tip 0), (6, .code (Sh.one (R.int IntKind.i64)))], boxes := [[.code (.sl (R.int IntKind.i64)), .code (.int IntKind.i64)]], stgs := [⟨(R.pair (R.int IntKind.u16) (R.pair (R.int IntKind.u16) (R.pair R.bool (R.int IntKind.i64)))), 56, true⟩] }


noncomputable def nRegionsBL0T (a : Int × List Int × Int × List (Int × Int × Bool × Int) × PUnit) : RT (Option (Go1 (Int × List Int × Int × List (Int × Int × Bool × Int) × PUnit))) :=
  let x1 : Bool := !nNextC (nWord (a.2.1, a.2.2.1)).2 6 || inRng (nNext (nWord (a.2.1, a.2.2.1)).2 6).1 (List.length [0, 3, 15, 255, 4095, 65535])
  let x2 : Bool := !x1
  let x3 : Bool := nNextC (nNext (nWord (a.2.1, a.2.2.1)).2 6).2 3
  let x4 : Bool := !x3
  let x5 : Int × List Int × Int := nNext (nNext (nWord (a.2.1, a.2.2.1)).2 6).2 3
  let x6 : List Int × Int := x5.2
  let x7 : Bool := nNextC x6 5
  let x8 : Bool := !x7
  let x9 : Int × List Int × Int := nNext x6 5
  let x10 : Int := x9.1
  let x11 : Bool := inRng x10 (List.length [0, 0, 1, 2, 5])
  let x12 : Int := IntKind.i64.wrap (IntKind.i64.wrap (nWord (a.2.1, a.2.2.1)).1 + R.get (R.int IntKind.i64) [0, 3, 15, 255, 4095, 65535] (nNext (nWord (a.2.1, a.2.2.1)).2 6).1)
  let x13 : List (Int × Int × Bool × Int) := a.2.2.2.1 ++ [((nWord (a.2.1, a.2.2.1)).1, IntKind.u16.wrap (if 65535 < x12 then 65535 else x12), decide (x5.1 > 0), R.get (R.int IntKind.i64) [0, 0, 1, 2, 5] x10)]
  let x14 : Bool := x4 || (x8 || (!x11 || Nat.ble (List.length x13) most))
  let x15 : Bool := !x14
  let x16 : Bool := x4 || (x8 || x11)
  let x17 : Bool := !x16
  let x18 : Bool := x4 || x7
  let x19 : List Int × Int := x9.2
  .br (decide (a.1 > 0))
  (.br (!nWordC (a.2.1, a.2.2.1) || (x2 || (!nNextC (nWord (a.2.1, a.2.2.1)).2 6 || (x15 || (x17 || (!x18 || x3))))))
   (.br (!nWordC (a.2.1, a.2.2.1) || (x2 || (!nNextC (nWord (a.2.1, a.2.2.1)).2 6 || (x15 || (x17 || x18)))))
    (.br (!nWordC (a.2.1, a.2.2.1) || (x2 || (!nNextC (nWord (a.2.1, a.2.2.1)).2 6 || (x15 || x16))))
     (.br (!nWordC (a.2.1, a.2.2.1) || (x2 || (!nNextC (nWord (a.2.1, a.2.2.1)).2 6 || x14)))
      (.br (!nWordC (a.2.1, a.2.2.1) || (x2 || nNextC (nWord (a.2.1, a.2.2.1)).2 6))
       (.br (!nWordC (a.2.1, a.2.2.1) || x1)
        (.br (nWordC (a.2.1, a.2.2.1))
         (.leaf (some (Go1.cont (IntKind.i64.wrap (a.1 - 1), x19.1, x19.2, x13, PUnit.unit))))
         (.leaf none))
        (.leaf none))
       (.leaf none))
      (.leaf none))
     (.leaf none))
    (.leaf none))
   (.leaf none))
  (.leaf (some (Go1.brk (a.1, a.2.1, a.2.2.1, a.2.2.2.1, PUnit.unit))))

noncomputable def nRegionsBL0O : Ora := loopE false nRegionsBL0c nRegionsBL0T (fun a => 400)

theorem nRegionsBL0_ok : OraOk (envX Try.prog [(29, nWordE), (39, nNextE)] [] 511 8) (.block 0 (.loop (bodyIn Try.f28.body 0))) nRegionsBL0O :=
  loop_part (envX_ok (l := [(29, nWordE), (39, nNextE)]) ⟨nWord_ok, nNext_ok, trivial⟩ [] 511 8) (loopsOk_bare (by kernel_rfl)) (fun a => by kernel_rfl)

noncomputable def nRegionsBT (s : List Int × Int) (n : Int) : RT (Option (List (Int × Int × Bool × Int) × List Int × Int)) :=
  let x1 : Int × List Int × Int × List (Int × Int × Bool × Int) × PUnit := ((nNext s (IntKind.i64.wrap (n + 1))).1, (nNext s (IntKind.i64.wrap (n + 1))).2.1, (nNext s (IntKind.i64.wrap (n + 1))).2.2, [], ())
  let x2 : Option (Bool × Int × List Int × Int × List (Int × Int × Bool × Int) × PUnit) := runF false nRegionsBL0T (fun a => 400) x1
  let x3 : List Int × Int × List (Int × Int × Bool × Int) × PUnit := (getO (false, x1) x2).2.2
  let x4 : Int × List (Int × Int × Bool × Int) × PUnit := x3.2
  .br (nNextC s (IntKind.i64.wrap (n + 1)))
  (.br (okB x2)
   (.leaf (some ((x4.2.1, x3.1, x4.1))))
   (.leaf none))
  (.leaf none)

noncomputable def nRegionsB (s : List Int × Int) (n : Int) : List (Int × Int × Bool × Int) × List Int × Int := getO (nRegionsBRs.dflt, nRegionsBRb.dflt) (nRegionsBT s n).val

noncomputable def nRegionsBC (s : List Int × Int) (n : Int) : Bool := okB (nRegionsBT s n).val

noncomputable def nRegionsBE : Entry := boxE nRegionsBRb nRegionsBTs nRegionsBRs (fun a => some (nRegionsBC a.1 a.2)) (fun a => nRegionsB a.1 a.2)

theorem nRegionsB_ok : EntryOk Try.prog 28 nRegionsBE :=
  box_part (P := Try.prog) (n := 511) (k := 8) (l := [(29, nWordE), (39, nNextE)]) (ol := [(0, nRegionsBL0O)]) ⟨nWord_ok, nNext_ok, trivial⟩ Try.func28 rfl (by kernel_rfl) Try.call28 ⟨nRegionsBL0_ok, trivial⟩ (rb := nRegionsBRb) (ts := nRegionsBTs) (rs := nRegionsBRs) (t := fun a => nRegionsBT a.1 a.2) (fun a => by kernel_rfl)

end
end Go.Proofs.Ytfejikddclgkcaa
