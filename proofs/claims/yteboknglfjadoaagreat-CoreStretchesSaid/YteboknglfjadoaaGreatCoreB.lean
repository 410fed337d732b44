/-
  Contracts of functions; each found by the symbolic executor and checked by the kernel. Conditions: none.
-/
import Derived.Test.YteboknglfjadoaaGreatS3D
import Derived.Test.YteboknglfjadoaaGreatProg
import Derived.Test.YteboknglfjadoaaGreatCoreN
import Derived.Test.YteboknglfjadoaaGreatNextAll
import Derived.Test.YteboknglfjadoaaGreatFinAllR
import Derived.Test.YteboknglfjadoaaGreatFinAll
import Derived.Test.YteboknglfjadoaaGreatFirstEq
set_option linter.unusedSimpArgs false
open Go Go.S3 Go.Proofs
set_option linter.unusedVariables false
set_option maxRecDepth 100000
namespace Go.Proofs.YteboknglfjadoaaGreat
noncomputable section
abbrev pStateTs : List Sh := [Sh.agg (R.pair (R.pair (R.int IntKind.i64) (R.pair (R.pair (R.int IntKind.u8) (R.pair (R.int IntKind.u8) (R.pair (R.int IntKind.u8) (R.pair (R.int IntKind.u8) (R.pair (R.int IntKind.u8) (R.pair (R.int IntKind.u8) (R.pair (R.int IntKind.u8) (R.pair (R.pair R.bool (R.pair R.bool (R.pair R.bool (R.pair R.bool (R.pair R.bool (R.pair R.bool R.bool)))))) (R.pair (R.int IntKind.u16) (R.int IntKind.u16)))))))))) (R.pair R.bool (R.pair R.bool (R.pair R.bool (R.pair (R.int IntKind.u8) (R.pair R.bool (R.pair R.bool (R.pair R.bool (R.pair R.bool (R.pair R.bool (R.pair R.bool R.bool)))))))))))) (R.pair (R.int IntKind.i64) (R.pair (R.sl (R.int IntKind.u8)) (R.pair (RY) (R.pair (R.int IntKind.i64) R.bool)))))]

abbrev pStateRs : Rs := Rs.one (Sh.one (R.int IntKind.i64))

noncomputable def pStateT (c : TC × Int × List Int × TY × Int × Bool) : RT (Int) :=
  .br (decide (c.2.2.2.2.1 < 1) || decide (c.2.2.2.2.1 > 9))
  (.leaf (1))
  (.leaf c.2.2.2.2.1)

noncomputable def pState (c : TC × Int × List Int × TY × Int × Bool) : Int := (pStateT c).val

noncomputable def pStateE : Entry := pureE pStateTs pStateRs (fun _ => none) (fun a => pState a)

theorem pState_ok : EntryOk Tryz.prog 62 pStateE :=
  pure_tot (P := Tryz.prog) (n := 7) (k := 8) (l := []) (ol := []) trivial Tryz.func62 rfl (by kernel_rfl) Tryz.call62 trivial (ts := pStateTs) (rs := pStateRs) (t := fun a => pStateT a) (fun a => by kernel_rfl)

abbrev pIdleTs : List Sh := [Sh.agg (R.pair (R.pair (R.int IntKind.i64) (R.pair (R.pair (R.int IntKind.u8) (R.pair (R.int IntKind.u8) (R.pair (R.int IntKind.u8) (R.pair (R.int IntKind.u8) (R.pair (R.int IntKind.u8) (R.pair (R.int IntKind.u8) (R.pair (R.int IntKind.u8) (R.pair (R.pair R.bool (R.pair R.bool (R.pair R.bool (R.pair R.bool (R.pair R.bool (R.pair R.bool R.bool)))))) (R.pair (R.int IntKind.u16) (R.int IntKind.u16)))))))))) (R.pair R.bool (R.pair R.bool (R.pair R.bool (R.pair (R.int IntKind.u8) (R.pair R.bool (R.pair R.bool (R.pair R.bool (R.pair R.bool (R.pair R.bool (R.pair R.bool R.bool)))))))))))) (R.pair (R.int IntKind.i64) (R.pair (R.sl (R.int IntKind.u8)) (R.pair (RY) (R.pair (R.int IntKind.i64) R.bool))))), Sh.one R.bool]

abbrev pIdleRs : Rs := Rs.one (Sh.one (R.int IntKind.i64))

noncomputable def pIdleT (c : TC × Int × List Int × TY × Int × Bool) (h : Bool) : RT (Int) :=
  .br (h)
  (.leaf (8))
  (.br (c.1.2.2.2.2.1 && c.2.1 == 0)
   (.leaf (9))
   (.leaf (1)))

noncomputable def pIdle (c : TC × Int × List Int × TY × Int × Bool) (h : Bool) : Int := (pIdleT c h).val

noncomputable def pIdleE : Entry := pureE pIdleTs pIdleRs (fun _ => none) (fun a => pIdle a.1 a.2)

theorem pIdle_ok : EntryOk Tryz.prog 131 pIdleE :=
  pure_tot (P := Tryz.prog) (n := 191) (k := 8) (l := []) (ol := []) trivial Tryz.func131 rfl (by kernel_rfl) Tryz.call131 trivial (ts := pIdleTs) (rs := pIdleRs) (t := fun a => pIdleT a.1 a.2) (fun a => by kernel_rfl)

abbrev pWaitingTs : List Sh := [Sh.one (R.int IntKind.i64), Sh.one R.bool]

abbrev pWaitingRs : Rs := Rs.one (Sh.one (R.int IntKind.i64))

noncomputable def pWaitingT (s : Int) (h : Bool) : RT (Int) :=
  .br (h)
  (.leaf (8))
  (.br (s == 0)
   (.leaf (9))
   (.leaf (1)))

noncomputable def pWaiting (s : Int) (h : Bool) : Int := (pWaitingT s h).val

noncomputable def pWaitingE : Entry := pureE pWaitingTs pWaitingRs (fun _ => none) (fun a => pWaiting a.1 a.2)

theorem pWaiting_ok : EntryOk Tryz.prog 134 pWaitingE :=
  pure_tot (P := Tryz.prog) (n := 191) (k := 8) (l := []) (ol := []) trivial Tryz.func134 rfl (by kernel_rfl) Tryz.call134 trivial (ts := pWaitingTs) (rs := pWaitingRs) (t := fun a => pWaitingT a.1 a.2) (fun a => by kernel_rfl)

abbrev pServeTs : List Sh := [Sh.agg (R.pair (R.pair (R.int IntKind.i64) (R.pair (R.pair (R.int IntKind.u8) (R.pair (R.int IntKind.u8) (R.pair (R.int IntKind.u8) (R.pair (R.int IntKind.u8) (R.pair (R.int IntKind.u8) (R.pair (R.int IntKind.u8) (R.pair (R.int IntKind.u8) (R.pair (R.pair R.bool (R.pair R.bool (R.pair R.bool (R.pair R.bool (R.pair R.bool (R.pair R.bool R.bool)))))) (R.pair (R.int IntKind.u16) (R.int IntKind.u16)))))))))) (R.pair R.bool (R.pair R.bool (R.pair R.bool (R.pair (R.int IntKind.u8) (R.pair R.bool (R.pair R.bool (R.pair R.bool (R.pair R.bool (R.pair R.bool (R.pair R.bool R.bool)))))))))))) (R.pair (R.int IntKind.i64) (R.pair (R.sl (R.int IntKind.u8)) (R.pair (RY) (R.pair (R.int IntKind.i64) R.bool))))), Sh.one (R.int IntKind.i64)]

abbrev pServeRs : Rs := Rs.one (Sh.agg (R.pair (R.pair (R.int IntKind.i64) (R.pair (R.pair (R.int IntKind.u8) (R.pair (R.int IntKind.u8) (R.pair (R.int IntKind.u8) (R.pair (R.int IntKind.u8) (R.pair (R.int IntKind.u8) (R.pair (R.int IntKind.u8) (R.pair (R.int IntKind.u8) (R.pair (R.pair R.bool (R.pair R.bool (R.pair R.bool (R.pair R.bool (R.pair R.bool (R.pair R.bool R.bool)))))) (R.pair (R.int IntKind.u16) (R.int IntKind.u16)))))))))) (R.pair R.bool (R.pair R.bool (R.pair R.bool (R.pair (R.int IntKind.u8) (R.pair R.bool (R.pair R.bool (R.pair R.bool (R.pair R.bool (R.pair R.bool (R.pair R.bool R.bool)))))))))))) (R.pair (R.int IntKind.i64) (R.pair (R.sl (R.int IntKind.u8)) (R.pair (RY) (R.pair (R.int IntKind.i64) R.bool))))))

noncomputable def pServeT (c : TC × Int × List Int × TY × Int × Bool) (s : Int) : RT (TC × Int × List Int × TY × Int × Bool) :=
  .leaf ((rAccept c.1 s, s, [], (nextX (rAccept c.1 s) s []).1, c.2.2.2.2))

noncomputable def pServe (c : TC × Int × List Int × TY × Int × Bool) (s : Int) : TC × Int × List Int × TY × Int × Bool := (pServeT c s).val

noncomputable def pServeE : Entry := pureE pServeTs pServeRs (fun _ => none) (fun a => pServe a.1 a.2)

theorem pServe_ok : EntryOk Tryz.prog 133 pServeE :=
  pure_tot (P := Tryz.prog) (n := 31) (k := 8) (l := [(120, pNextE), (164, pAccept1E)]) (ol := []) ⟨pNext_ok, pAccept1_ok, trivial⟩ Tryz.func133 rfl (by kernel_rfl) Tryz.call133 trivial (ts := pServeTs) (rs := pServeRs) (t := fun a => pServeT a.1 a.2) (fun a => by kernel_rfl)

abbrev pBeginTs : List Sh := [Sh.agg (R.pair (R.int IntKind.i64) (R.pair (R.pair (R.int IntKind.u8) (R.pair (R.int IntKind.u8) (R.pair (R.int IntKind.u8) (R.pair (R.int IntKind.u8) (R.pair (R.int IntKind.u8) (R.pair (R.int IntKind.u8) (R.pair (R.int IntKind.u8) (R.pair (R.pair R.bool (R.pair R.bool (R.pair R.bool (R.pair R.bool (R.pair R.bool (R.pair R.bool R.bool)))))) (R.pair (R.int IntKind.u16) (R.int IntKind.u16)))))))))) (R.pair R.bool (R.pair R.bool (R.pair R.bool (R.pair (R.int IntKind.u8) (R.pair R.bool (R.pair R.bool (R.pair R.bool (R.pair R.bool (R.pair R.bool (R.pair R.bool R.bool)))))))))))), Sh.one (R.int IntKind.i64)]

abbrev pBeginRs : Rs := Rs.one (Sh.agg (R.pair (R.pair (R.int IntKind.i64) (R.pair (R.pair (R.int IntKind.u8) (R.pair (R.int IntKind.u8) (R.pair (R.int IntKind.u8) (R.pair (R.int IntKind.u8) (R.pair (R.int IntKind.u8) (R.pair (R.int IntKind.u8) (R.pair (R.int IntKind.u8) (R.pair (R.pair R.bool (R.pair R.bool (R.pair R.bool (R.pair R.bool (R.pair R.bool (R.pair R.bool R.bool)))))) (R.pair (R.int IntKind.u16) (R.int IntKind.u16)))))))))) (R.pair R.bool (R.pair R.bool (R.pair R.bool (R.pair (R.int IntKind.u8) (R.pair R.bool (R.pair R.bool (R.pair R.bool (R.pair R.bool (R.pair R.bool (R.pair R.bool R.bool)))))))))))) (R.pair (R.int IntKind.i64) (R.pair (R.sl (R.int IntKind.u8)) (R.pair (RY) (R.pair (R.int IntKind.i64) R.bool))))))

noncomputable def pBeginT (c : TC) (s : Int) : RT (TC × Int × List Int × TY × Int × Bool) :=
  .leaf ((c, s, [], (nextX c s []).1, 1, false))

noncomputable def pBegin (c : TC) (s : Int) : TC × Int × List Int × TY × Int × Bool := (pBeginT c s).val

noncomputable def pBeginE : Entry := pureE pBeginTs pBeginRs (fun _ => none) (fun a => pBegin a.1 a.2)

theorem pBegin_ok : EntryOk Tryz.prog 63 pBeginE :=
  pure_tot (P := Tryz.prog) (n := 127) (k := 8) (l := [(120, pNextE)]) (ol := []) ⟨pNext_ok, trivial⟩ Tryz.func63 rfl (by kernel_rfl) Tryz.call63 trivial (ts := pBeginTs) (rs := pBeginRs) (t := fun a => pBeginT a.1 a.2) (fun a => by kernel_rfl)

abbrev rStateTs : List Sh := [Sh.agg (R.pair (R.pair (R.int IntKind.i64) (R.pair (R.pair (R.int IntKind.u8) (R.pair (R.int IntKind.u8) (R.pair (R.int IntKind.u8) (R.pair (R.int IntKind.u8) (R.pair (R.int IntKind.u8) (R.pair (R.int IntKind.u8) (R.pair (R.int IntKind.u8) (R.pair (R.pair R.bool (R.pair R.bool (R.pair R.bool (R.pair R.bool (R.pair R.bool (R.pair R.bool R.bool)))))) (R.pair (R.int IntKind.u16) (R.int IntKind.u16)))))))))) (R.pair R.bool (R.pair R.bool (R.pair R.bool (R.pair (R.int IntKind.u8) (R.pair R.bool (R.pair R.bool (R.pair R.bool (R.pair R.bool (R.pair R.bool (R.pair R.bool R.bool)))))))))))) (R.pair (R.int IntKind.i64) (R.pair (R.sl (R.int IntKind.u8)) (R.pair (RY) (R.pair (R.int IntKind.i64) R.bool)))))]

abbrev rStateRs : Rs := Rs.one (Sh.one (R.int IntKind.i64))

noncomputable def rStateT (c : TC × Int × List Int × TY × Int × Bool) : RT (Int) :=
  .br (decide (c.2.2.2.2.1 < 1) || decide (c.2.2.2.2.1 > 9))
  (.leaf (1))
  (.leaf c.2.2.2.2.1)

noncomputable def rState (c : TC × Int × List Int × TY × Int × Bool) : Int := (rStateT c).val

noncomputable def rStateE : Entry := pureE rStateTs rStateRs (fun _ => none) (fun a => rState a)

theorem rState_ok : EntryOk Tryz.prog 88 rStateE :=
  pure_tot (P := Tryz.prog) (n := 7) (k := 8) (l := []) (ol := []) trivial Tryz.func88 rfl (by kernel_rfl) Tryz.call88 trivial (ts := rStateTs) (rs := rStateRs) (t := fun a => rStateT a) (fun a => by kernel_rfl)

abbrev rBeginTs : List Sh := [Sh.agg (R.pair (R.int IntKind.i64) (R.pair (R.pair (R.int IntKind.u8) (R.pair (R.int IntKind.u8) (R.pair (R.int IntKind.u8) (R.pair (R.int IntKind.u8) (R.pair (R.int IntKind.u8) (R.pair (R.int IntKind.u8) (R.pair (R.int IntKind.u8) (R.pair (R.pair R.bool (R.pair R.bool (R.pair R.bool (R.pair R.bool (R.pair R.bool (R.pair R.bool R.bool)))))) (R.pair (R.int IntKind.u16) (R.int IntKind.u16)))))))))) (R.pair R.bool (R.pair R.bool (R.pair R.bool (R.pair (R.int IntKind.u8) (R.pair R.bool (R.pair R.bool (R.pair R.bool (R.pair R.bool (R.pair R.bool (R.pair R.bool R.bool)))))))))))), Sh.one (R.int IntKind.i64)]

abbrev rBeginRs : Rs := Rs.one (Sh.agg (RY))

noncomputable def rBeginT (c : TC) (s : Int) : RT TY :=
  .leaf (nextX c s []).1

noncomputable def rBegin (c : TC) (s : Int) : Int × Int × Int × Int := (rBeginT c s).val

noncomputable def rBeginE : Entry := pureE rBeginTs rBeginRs (fun _ => none) (fun a => rBegin a.1 a.2)

theorem rBegin_ok : EntryOk Tryz.prog 56 rBeginE :=
  pure_tot (P := Tryz.prog) (n := 127) (k := 8) (l := [(20, rNextE)]) (ol := []) ⟨rNext_ok, trivial⟩ Tryz.func56 rfl (by kernel_rfl) Tryz.call56 trivial (ts := rBeginTs) (rs := rBeginRs) (t := fun a => rBeginT a.1 a.2) (fun a => by kernel_rfl)

abbrev rServeTs : List Sh := [Sh.agg (R.pair (R.pair (R.int IntKind.i64) (R.pair (R.pair (R.int IntKind.u8) (R.pair (R.int IntKind.u8) (R.pair (R.int IntKind.u8) (R.pair (R.int IntKind.u8) (R.pair (R.int IntKind.u8) (R.pair (R.int IntKind.u8) (R.pair (R.int IntKind.u8) (R.pair (R.pair R.bool (R.pair R.bool (R.pair R.bool (R.pair R.bool (R.pair R.bool (R.pair R.bool R.bool)))))) (R.pair (R.int IntKind.u16) (R.int IntKind.u16)))))))))) (R.pair R.bool (R.pair R.bool (R.pair R.bool (R.pair (R.int IntKind.u8) (R.pair R.bool (R.pair R.bool (R.pair R.bool (R.pair R.bool (R.pair R.bool (R.pair R.bool R.bool)))))))))))) (R.pair (R.int IntKind.i64) (R.pair (R.sl (R.int IntKind.u8)) (R.pair (RY) (R.pair (R.int IntKind.i64) R.bool))))), Sh.one (R.int IntKind.i64)]

abbrev rServeRs : Rs := Rs.one (Sh.agg (R.pair (R.pair (R.int IntKind.i64) (R.pair (R.pair (R.int IntKind.u8) (R.pair (R.int IntKind.u8) (R.pair (R.int IntKind.u8) (R.pair (R.int IntKind.u8) (R.pair (R.int IntKind.u8) (R.pair (R.int IntKind.u8) (R.pair (R.int IntKind.u8) (R.pair (R.pair R.bool (R.pair R.bool (R.pair R.bool (R.pair R.bool (R.pair R.bool (R.pair R.bool R.bool)))))) (R.pair (R.int IntKind.u16) (R.int IntKind.u16)))))))))) (R.pair R.bool (R.pair R.bool (R.pair R.bool (R.pair (R.int IntKind.u8) (R.pair R.bool (R.pair R.bool (R.pair R.bool (R.pair R.bool (R.pair R.bool (R.pair R.bool R.bool)))))))))))) (R.pair (R.int IntKind.i64) (R.pair (R.sl (R.int IntKind.u8)) (R.pair (RY) (R.pair (R.int IntKind.i64) R.bool))))))

noncomputable def rServeT (c : TC × Int × List Int × TY × Int × Bool) (s : Int) : RT (TC × Int × List Int × TY × Int × Bool) :=
  .leaf ((rAccept c.1 s, s, [], rBegin (rAccept c.1 s) s, c.2.2.2.2))

noncomputable def rServe (c : TC × Int × List Int × TY × Int × Bool) (s : Int) : TC × Int × List Int × TY × Int × Bool := (rServeT c s).val

noncomputable def rServeE : Entry := pureE rServeTs rServeRs (fun _ => none) (fun a => rServe a.1 a.2)

theorem rServe_ok : EntryOk Tryz.prog 93 rServeE :=
  pure_tot (P := Tryz.prog) (n := 31) (k := 8) (l := [(56, rBeginE), (104, rAcceptE)]) (ol := []) ⟨rBegin_ok, rAccept_ok, trivial⟩ Tryz.func93 rfl (by kernel_rfl) Tryz.call93 trivial (ts := rServeTs) (rs := rServeRs) (t := fun a => rServeT a.1 a.2) (fun a => by kernel_rfl)

abbrev rReadTs : List Sh := [Sh.agg (R.pair (R.pair (R.int IntKind.i64) (R.pair (R.pair (R.int IntKind.u8) (R.pair (R.int IntKind.u8) (R.pair (R.int IntKind.u8) (R.pair (R.int IntKind.u8) (R.pair (R.int IntKind.u8) (R.pair (R.int IntKind.u8) (R.pair (R.int IntKind.u8) (R.pair (R.pair R.bool (R.pair R.bool (R.pair R.bool (R.pair R.bool (R.pair R.bool (R.pair R.bool R.bool)))))) (R.pair (R.int IntKind.u16) (R.int IntKind.u16)))))))))) (R.pair R.bool (R.pair R.bool (R.pair R.bool (R.pair (R.int IntKind.u8) (R.pair R.bool (R.pair R.bool (R.pair R.bool (R.pair R.bool (R.pair R.bool (R.pair R.bool R.bool)))))))))))) (R.pair (R.int IntKind.i64) (R.pair (R.sl (R.int IntKind.u8)) (R.pair (RY) (R.pair (R.int IntKind.i64) R.bool))))), Sh.one (R.int IntKind.i64), Sh.one (R.int IntKind.u8)]

abbrev rReadRs : Rs := Rs.tup [Sh.agg (RY), Sh.one (R.sl (R.int IntKind.u8))]

noncomputable def rReadT (c : TC × Int × List Int × TY × Int × Bool) (t : Int) (d : Int) : RT (Option (TY × List Int)) :=
  let x1 : Int := bif rReads c.2.2.2.1.1 then d else c.2.2.2.1.2.2.1
  let x2 : List Int := [] ++ c.2.2.1 ++ [x1]
  .br (t != 3)
  (.leaf (some ((c.2.2.2.1, c.2.2.1))))
  (.br (!Nat.ble (List.length ([] ++ c.2.2.1)) most || Nat.ble (List.length x2) most)
   (.br (Nat.ble (List.length ([] ++ c.2.2.1)) most)
    (.leaf (some (((c.2.2.2.1.1, c.2.2.2.1.2.1, x1, bif c.2.2.2.1.1 == 1 || c.2.2.2.1.1 == 8 then rFirst c.1.1 x1 else c.2.2.2.1.2.2.2), x2))))
    (.leaf none))
   (.leaf none))

noncomputable def rRead (c : TC × Int × List Int × TY × Int × Bool) (t : Int) (d : Int) : TY × List Int := getO rReadRs.dflt (rReadT c t d).val

noncomputable def rReadC (c : TC × Int × List Int × TY × Int × Bool) (t : Int) (d : Int) : Bool := okB (rReadT c t d).val

noncomputable def rReadE : Entry := pureE rReadTs rReadRs (fun a => some (rReadC a.1 a.2.1 a.2.2)) (fun a => rRead a.1 a.2.1 a.2.2)

theorem rRead_ok : EntryOk Tryz.prog 94 rReadE :=
  pure_part (P := Tryz.prog) (n := 1023) (k := 8) (l := [(22, rReadsE), (161, rFirstE)]) (ol := []) ⟨rReads_ok, rFirst_ok, trivial⟩ Tryz.func94 rfl (by kernel_rfl) Tryz.call94 trivial (ts := rReadTs) (rs := rReadRs) (t := fun a => rReadT a.1 a.2.1 a.2.2) (fun a => by kernel_rfl)

abbrev rEndsTs : List Sh := [Sh.one (R.int IntKind.i64), Sh.agg (RY)]

abbrev rEndsRs : Rs := Rs.one (Sh.one R.bool)

noncomputable def rEndsT (t : Int) (x : Int × Int × Int × Int) : RT (Bool) :=
  .br (t == 3)
  (.leaf (decide (x.2.2.2 ≤ 3)))
  (.br (bif t == 4 then t == 4 else t == 5)
   (.leaf (decide (x.2.2.2 ≤ t)))
   (.leaf (t == 6)))

noncomputable def rEnds (t : Int) (x : Int × Int × Int × Int) : Bool := (rEndsT t x).val

noncomputable def rEndsE : Entry := pureE rEndsTs rEndsRs (fun _ => none) (fun a => rEnds a.1 a.2)

theorem rEnds_ok : EntryOk Tryz.prog 95 rEndsE :=
  pure_tot (P := Tryz.prog) (n := 2143) (k := 8) (l := []) (ol := []) trivial Tryz.func95 rfl (by kernel_rfl) Tryz.call95 trivial (ts := rEndsTs) (rs := rEndsRs) (t := fun a => rEndsT a.1 a.2) (fun a => by kernel_rfl)

abbrev rRestingTs : List Sh := [Sh.agg (R.pair (R.pair (R.int IntKind.i64) (R.pair (R.pair (R.int IntKind.u8) (R.pair (R.int IntKind.u8) (R.pair (R.int IntKind.u8) (R.pair (R.int IntKind.u8) (R.pair (R.int IntKind.u8) (R.pair (R.int IntKind.u8) (R.pair (R.int IntKind.u8) (R.pair (R.pair R.bool (R.pair R.bool (R.pair R.bool (R.pair R.bool (R.pair R.bool (R.pair R.bool R.bool)))))) (R.pair (R.int IntKind.u16) (R.int IntKind.u16)))))))))) (R.pair R.bool (R.pair R.bool (R.pair R.bool (R.pair (R.int IntKind.u8) (R.pair R.bool (R.pair R.bool (R.pair R.bool (R.pair R.bool (R.pair R.bool (R.pair R.bool R.bool)))))))))))) (R.pair (R.int IntKind.i64) (R.pair (R.sl (R.int IntKind.u8)) (R.pair (RY) (R.pair (R.int IntKind.i64) R.bool)))))]

abbrev rRestingRs : Rs := Rs.one (Sh.one R.bool)

noncomputable def rRestingT (c : TC × Int × List Int × TY × Int × Bool) : RT (Bool) :=
  .leaf (c.1.2.2.2.2.1 && c.2.1 == 0)

noncomputable def rResting (c : TC × Int × List Int × TY × Int × Bool) : Bool := (rRestingT c).val

noncomputable def rRestingE : Entry := pureE rRestingTs rRestingRs (fun _ => none) (fun a => rResting a)

theorem rResting_ok : EntryOk Tryz.prog 91 rRestingE :=
  pure_tot (P := Tryz.prog) (n := 7) (k := 8) (l := []) (ol := []) trivial Tryz.func91 rfl (by kernel_rfl) Tryz.call91 trivial (ts := rRestingTs) (rs := rRestingRs) (t := fun a => rRestingT a) (fun a => by kernel_rfl)

abbrev rEndTs : List Sh := [Sh.agg (R.pair (R.pair (R.int IntKind.i64) (R.pair (R.pair (R.int IntKind.u8) (R.pair (R.int IntKind.u8) (R.pair (R.int IntKind.u8) (R.pair (R.int IntKind.u8) (R.pair (R.int IntKind.u8) (R.pair (R.int IntKind.u8) (R.pair (R.int IntKind.u8) (R.pair (R.pair R.bool (R.pair R.bool (R.pair R.bool (R.pair R.bool (R.pair R.bool (R.pair R.bool R.bool)))))) (R.pair (R.int IntKind.u16) (R.int IntKind.u16)))))))))) (R.pair R.bool (R.pair R.bool (R.pair R.bool (R.pair (R.int IntKind.u8) (R.pair R.bool (R.pair R.bool (R.pair R.bool (R.pair R.bool (R.pair R.bool (R.pair R.bool R.bool)))))))))))) (R.pair (R.int IntKind.i64) (R.pair (R.sl (R.int IntKind.u8)) (R.pair (RY) (R.pair (R.int IntKind.i64) R.bool))))), Sh.agg (R.pair R.bool (R.pair R.bool (R.pair R.bool (R.pair R.bool (R.pair R.bool (R.pair R.bool (R.pair R.bool (R.pair R.bool R.bool))))))))]

abbrev rEndRs : Rs := Rs.one (Sh.agg (R.pair (R.pair (R.int IntKind.i64) (R.pair (R.pair (R.int IntKind.u8) (R.pair (R.int IntKind.u8) (R.pair (R.int IntKind.u8) (R.pair (R.int IntKind.u8) (R.pair (R.int IntKind.u8) (R.pair (R.int IntKind.u8) (R.pair (R.int IntKind.u8) (R.pair (R.pair R.bool (R.pair R.bool (R.pair R.bool (R.pair R.bool (R.pair R.bool (R.pair R.bool R.bool)))))) (R.pair (R.int IntKind.u16) (R.int IntKind.u16)))))))))) (R.pair R.bool (R.pair R.bool (R.pair R.bool (R.pair (R.int IntKind.u8) (R.pair R.bool (R.pair R.bool (R.pair R.bool (R.pair R.bool (R.pair R.bool (R.pair R.bool R.bool)))))))))))) (R.pair (R.int IntKind.i64) (R.pair (R.sl (R.int IntKind.u8)) (R.pair (RY) (R.pair (R.int IntKind.i64) R.bool))))))

noncomputable def rEndT (c : TC × Int × List Int × TY × Int × Bool) (l : Bool × Bool × Bool × Bool × Bool × Bool × Bool × Bool × Bool) : RT (TC × Int × List Int × TY × Int × Bool) :=
  let x1 : TC × Int × List Int × TY × Int × Bool := rServe (finX c.1 c.2.1 c.2.2.1 l, c.2) (rPick (finX c.1 c.2.1 c.2.2.1 l) l)
  let x2 : TC := x1.1
  let x3 : TR × Bool × Bool × Bool × Int × Bool × Bool × Bool × Bool × Bool × Bool × Bool := x2.2
  let x4 : TR := x3.1
  let x5 : Int × Int × Int × Int × Int × Int × TF × Int × Int := x4.2
  let x6 : Int × Int × Int × Int × Int × TF × Int × Int := x5.2
  let x7 : Int × Int × Int × Int × TF × Int × Int := x6.2
  let x8 : Int × Int × Int × TF × Int × Int := x7.2
  let x9 : Int × Int × TF × Int × Int := x8.2
  let x10 : Int × TF × Int × Int := x9.2
  let x11 : TF × Int × Int := x10.2
  let x12 : TF := x11.1
  let x13 : Bool × Bool × Bool × Bool × Bool × Bool := x12.2
  let x14 : Bool × Bool × Bool × Bool × Bool := c.1.2.1.2.2.2.2.2.2.2.1.2.2
  let x15 : Bool × Bool × Bool × Bool × Bool := x13.2
  let x16 : Bool × Bool × Bool × Bool := x14.2
  let x17 : Bool × Bool × Bool × Bool := x15.2
  let x18 : Bool × Bool × Bool := x16.2
  let x19 : Bool × Bool × Bool := x17.2
  let x20 : Bool × Bool := x18.2
  let x21 : Bool × Bool := x19.2
  let x22 : Int × Int := x11.2
  let x23 : Bool × Bool × Bool × Int × Bool × Bool × Bool × Bool × Bool × Bool × Bool := x3.2
  let x24 : Bool × Bool × Int × Bool × Bool × Bool × Bool × Bool × Bool × Bool := x23.2
  let x25 : Bool × Int × Bool × Bool × Bool × Bool × Bool × Bool × Bool := x24.2
  let x26 : Int × Bool × Bool × Bool × Bool × Bool × Bool × Bool := x25.2
  let x27 : TF := x26.2
  let x28 : Bool × Bool × Bool × Bool × Bool × Bool := x27.2
  let x29 : Bool × Bool × Bool × Bool × Bool := x28.2
  let x30 : Bool × Bool × Bool × Bool := x29.2
  let x31 : Bool × Bool × Bool := x30.2
  let x32 : Bool × Bool := x31.2
  let x33 : TC := (bif (nextX c.1 c.2.1 c.2.2.1).2 then c.1.1 else x2.1, (bif (nextX c.1 c.2.1 c.2.2.1).2 then c.1.2.1.1 else x4.1, bif (nextX c.1 c.2.1 c.2.2.1).2 then c.1.2.1.2.1 else x5.1, bif (nextX c.1 c.2.1 c.2.2.1).2 then c.1.2.1.2.2.1 else x6.1, bif (nextX c.1 c.2.1 c.2.2.1).2 then c.1.2.1.2.2.2.1 else x7.1, bif (nextX c.1 c.2.1 c.2.2.1).2 then c.1.2.1.2.2.2.2.1 else x8.1, bif (nextX c.1 c.2.1 c.2.2.1).2 then c.1.2.1.2.2.2.2.2.1 else x9.1, bif (nextX c.1 c.2.1 c.2.2.1).2 then c.1.2.1.2.2.2.2.2.2.1 else x10.1, (bif (nextX c.1 c.2.1 c.2.2.1).2 then c.1.2.1.2.2.2.2.2.2.2.1.1 else x12.1, bif (nextX c.1 c.2.1 c.2.2.1).2 then c.1.2.1.2.2.2.2.2.2.2.1.2.1 else x13.1, bif (nextX c.1 c.2.1 c.2.2.1).2 then x14.1 else x15.1, bif (nextX c.1 c.2.1 c.2.2.1).2 then x16.1 else x17.1, bif (nextX c.1 c.2.1 c.2.2.1).2 then x18.1 else x19.1, bif (nextX c.1 c.2.1 c.2.2.1).2 then x20.1 else x21.1, bif (nextX c.1 c.2.1 c.2.2.1).2 then x20.2 else x21.2), bif (nextX c.1 c.2.1 c.2.2.1).2 then c.1.2.1.2.2.2.2.2.2.2.2.1 else x22.1, bif (nextX c.1 c.2.1 c.2.2.1).2 then c.1.2.1.2.2.2.2.2.2.2.2.2 else x22.2), bif (nextX c.1 c.2.1 c.2.2.1).2 then c.1.2.2.1 else x23.1, bif (nextX c.1 c.2.1 c.2.2.1).2 then c.1.2.2.2.1 else x24.1, bif (nextX c.1 c.2.1 c.2.2.1).2 then c.1.2.2.2.2.1 else x25.1, bif (nextX c.1 c.2.1 c.2.2.1).2 then c.1.2.2.2.2.2.1 else x26.1, bif (nextX c.1 c.2.1 c.2.2.1).2 then c.1.2.2.2.2.2.2.1 else x27.1, bif (nextX c.1 c.2.1 c.2.2.1).2 then c.1.2.2.2.2.2.2.2.1 else x28.1, bif (nextX c.1 c.2.1 c.2.2.1).2 then c.1.2.2.2.2.2.2.2.2.1 else x29.1, bif (nextX c.1 c.2.1 c.2.2.1).2 then c.1.2.2.2.2.2.2.2.2.2.1 else x30.1, bif (nextX c.1 c.2.1 c.2.2.1).2 then c.1.2.2.2.2.2.2.2.2.2.2.1 else x31.1, bif (nextX c.1 c.2.1 c.2.2.1).2 then c.1.2.2.2.2.2.2.2.2.2.2.2.1 else x32.1, bif (nextX c.1 c.2.1 c.2.2.1).2 then c.1.2.2.2.2.2.2.2.2.2.2.2.2 else x32.2)
  let x34 : Int × List Int × TY × Int × Bool := x1.2
  let x35 : Int := bif (nextX c.1 c.2.1 c.2.2.1).2 then c.2.1 else x34.1
  let x36 : List Int × TY × Int × Bool := x34.2
  let x37 : List Int := bif (nextX c.1 c.2.1 c.2.2.1).2 then c.2.2.1 else x36.1
  let x38 : TY × Int × Bool := x36.2
  let x39 : Int × Int × Int × Int := x38.1
  let x40 : Int × Int × Int := x39.2
  let x41 : Int × Int := x40.2
  let x42 : Int × Int × Int × Int := (bif (nextX c.1 c.2.1 c.2.2.1).2 then (nextX c.1 c.2.1 c.2.2.1).1.1 else x39.1, bif (nextX c.1 c.2.1 c.2.2.1).2 then (nextX c.1 c.2.1 c.2.2.1).1.2.1 else x40.1, bif (nextX c.1 c.2.1 c.2.2.1).2 then (nextX c.1 c.2.1 c.2.2.1).1.2.2.1 else x41.1, bif (nextX c.1 c.2.1 c.2.2.1).2 then (nextX c.1 c.2.1 c.2.2.1).1.2.2.2 else x41.2)
  let x43 : Int × Bool := x38.2
  let x44 : Bool := bif (nextX c.1 c.2.1 c.2.2.1).2 then c.2.2.2.2.2 else x43.2
  .leaf ((x33, x35, x37, x42, bif x44 then 8 else bif rResting (x33, x35, x37, x42, bif (nextX c.1 c.2.1 c.2.2.1).2 then c.2.2.2.2.1 else x43.1, x44) then 9 else 1, false))

noncomputable def rEnd (c : TC × Int × List Int × TY × Int × Bool) (l : Bool × Bool × Bool × Bool × Bool × Bool × Bool × Bool × Bool) : TC × Int × List Int × TY × Int × Bool := (rEndT c l).val

noncomputable def rEndE : Entry := pureE rEndTs rEndRs (fun _ => none) (fun a => rEnd a.1 a.2)

theorem rEnd_ok : EntryOk Tryz.prog 96 rEndE :=
  pure_tot (P := Tryz.prog) (n := 1168231104639) (k := 8) (l := [(20, rNextE), (26, rFinE), (91, rRestingE), (92, rPickE), (93, rServeE)]) (ol := []) ⟨rNext_ok, rFin_ok, rResting_ok, rPick_ok, rServe_ok, trivial⟩ Tryz.func96 rfl (by kernel_rfl) Tryz.call96 trivial (ts := rEndTs) (rs := rEndRs) (t := fun a => rEndT a.1 a.2) (fun a => by kernel_rfl)

abbrev pNewTs : List Sh := [Sh.one (R.int IntKind.i64)]

abbrev pNewRs : Rs := Rs.one (Sh.agg (R.pair (R.pair (R.int IntKind.i64) (R.pair (R.pair (R.int IntKind.u8) (R.pair (R.int IntKind.u8) (R.pair (R.int IntKind.u8) (R.pair (R.int IntKind.u8) (R.pair (R.int IntKind.u8) (R.pair (R.int IntKind.u8) (R.pair (R.int IntKind.u8) (R.pair (R.pair R.bool (R.pair R.bool (R.pair R.bool (R.pair R.bool (R.pair R.bool (R.pair R.bool R.bool)))))) (R.pair (R.int IntKind.u16) (R.int IntKind.u16)))))))))) (R.pair R.bool (R.pair R.bool (R.pair R.bool (R.pair (R.int IntKind.u8) (R.pair R.bool (R.pair R.bool (R.pair R.bool (R.pair R.bool (R.pair R.bool (R.pair R.bool R.bool)))))))))))) (R.pair (R.int IntKind.i64) (R.pair (R.sl (R.int IntKind.u8)) (R.pair (RY) (R.pair (R.int IntKind.i64) R.bool))))))

noncomputable def pNewT (chip : Int) : RT (TC × Int × List Int × TY × Int × Bool) :=
  let x1 : TR := (0, 0, 0, 0, 0, 0, 0, (false, false, false, false, false, false, false), 0, 0)
  let x2 : TC := (pBegin (rReset (chip, x1, false, false, false, 0, false, false, false, false, false, false, false)) 0).1
  .leaf (((x2.1, x1, false, false, false, x2.2.2.2.2.2.1, false, false, false, false, false, false, false), 0, [], (1, 0, 0, 4), 1, false))

noncomputable def pNew (chip : Int) : TC × Int × List Int × TY × Int × Bool := (pNewT chip).val

noncomputable def pNewE : Entry := pureE pNewTs pNewRs (fun _ => none) (fun a => pNew a)

theorem pNew_ok : EntryOk Tryz.prog 28 pNewE :=
  pure_tot (P := Tryz.prog) (n := 7) (k := 8) (l := [(63, pBeginE), (64, pReset1E)]) (ol := []) ⟨pBegin_ok, pReset1_ok, trivial⟩ Tryz.func28 rfl (by kernel_rfl) Tryz.call28 trivial (ts := pNewTs) (rs := pNewRs) (t := fun a => pNewT a) (fun a => by kernel_rfl)

abbrev rNewTs : List Sh := [Sh.one (R.int IntKind.i64)]

abbrev rNewRs : Rs := Rs.one (Sh.agg (R.pair (R.pair (R.int IntKind.i64) (R.pair (R.pair (R.int IntKind.u8) (R.pair (R.int IntKind.u8) (R.pair (R.int IntKind.u8) (R.pair (R.int IntKind.u8) (R.pair (R.int IntKind.u8) (R.pair (R.int IntKind.u8) (R.pair (R.int IntKind.u8) (R.pair (R.pair R.bool (R.pair R.bool (R.pair R.bool (R.pair R.bool (R.pair R.bool (R.pair R.bool R.bool)))))) (R.pair (R.int IntKind.u16) (R.int IntKind.u16)))))))))) (R.pair R.bool (R.pair R.bool (R.pair R.bool (R.pair (R.int IntKind.u8) (R.pair R.bool (R.pair R.bool (R.pair R.bool (R.pair R.bool (R.pair R.bool (R.pair R.bool R.bool)))))))))))) (R.pair (R.int IntKind.i64) (R.pair (R.sl (R.int IntKind.u8)) (R.pair (RY) (R.pair (R.int IntKind.i64) R.bool))))))

noncomputable def rNewT (chip : Int) : RT (TC × Int × List Int × TY × Int × Bool) :=
  let x1 : TR := (0, 0, 0, 0, 0, 0, 0, (false, false, false, false, false, false, false), 0, 0)
  let x2 : TC := rReset (chip, x1, false, false, false, 0, false, false, false, false, false, false, false)
  .leaf (((x2.1, x1, false, false, false, x2.2.2.2.2.2.1, false, false, false, false, false, false, false), 0, [], (1, 0, 0, 4), 1, false))

noncomputable def rNew (chip : Int) : TC × Int × List Int × TY × Int × Bool := (rNewT chip).val

noncomputable def rNewE : Entry := pureE rNewTs rNewRs (fun _ => none) (fun a => rNew a)

theorem rNew_ok : EntryOk Tryz.prog 17 rNewE :=
  pure_tot (P := Tryz.prog) (n := 15) (k := 8) (l := [(55, rResetE), (56, rBeginE)]) (ol := []) ⟨rReset_ok, rBegin_ok, trivial⟩ Tryz.func17 rfl (by kernel_rfl) Tryz.call17 trivial (ts := rNewTs) (rs := rNewRs) (t := fun a => rNewT a) (fun a => by kernel_rfl)
end
end Go.Proofs.YteboknglfjadoaaGreat
