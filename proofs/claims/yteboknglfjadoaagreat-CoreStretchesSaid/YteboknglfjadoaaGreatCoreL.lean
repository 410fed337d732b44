/-
  Contracts of functions; each found by the symbolic executor and checked by the kernel. Conditions: none.
-/
import Derived.Test.YteboknglfjadoaaGreatS3D
import Derived.Test.YteboknglfjadoaaGreatProg
import Derived.Test.YteboknglfjadoaaGreatMicroL
set_option linter.unusedSimpArgs false
open Go Go.S3 Go.Proofs
set_option linter.unusedVariables false
set_option maxRecDepth 100000
namespace Go.Proofs.YteboknglfjadoaaGreat
noncomputable section
abbrev pLatchTs : List Sh := [Sh.agg (R.pair (R.int IntKind.i64) (R.pair (R.pair (R.int IntKind.u8) (R.pair (R.int IntKind.u8) (R.pair (R.int IntKind.u8) (R.pair (R.int IntKind.u8) (R.pair (R.int IntKind.u8) (R.pair (R.int IntKind.u8) (R.pair (R.int IntKind.u8) (R.pair (R.pair R.bool (R.pair R.bool (R.pair R.bool (R.pair R.bool (R.pair R.bool (R.pair R.bool R.bool)))))) (R.pair (R.int IntKind.u16) (R.int IntKind.u16)))))))))) (R.pair R.bool (R.pair R.bool (R.pair R.bool (R.pair (R.int IntKind.u8) (R.pair R.bool (R.pair R.bool (R.pair R.bool (R.pair R.bool (R.pair R.bool (R.pair R.bool R.bool)))))))))))), Sh.agg (R.pair R.bool (R.pair R.bool (R.pair R.bool (R.pair R.bool (R.pair R.bool (R.pair R.bool (R.pair R.bool (R.pair R.bool R.bool))))))))]

abbrev pLatchRs : Rs := Rs.one (Sh.agg (R.pair (R.int IntKind.i64) (R.pair (R.pair (R.int IntKind.u8) (R.pair (R.int IntKind.u8) (R.pair (R.int IntKind.u8) (R.pair (R.int IntKind.u8) (R.pair (R.int IntKind.u8) (R.pair (R.int IntKind.u8) (R.pair (R.int IntKind.u8) (R.pair (R.pair R.bool (R.pair R.bool (R.pair R.bool (R.pair R.bool (R.pair R.bool (R.pair R.bool R.bool)))))) (R.pair (R.int IntKind.u16) (R.int IntKind.u16)))))))))) (R.pair R.bool (R.pair R.bool (R.pair R.bool (R.pair (R.int IntKind.u8) (R.pair R.bool (R.pair R.bool (R.pair R.bool (R.pair R.bool (R.pair R.bool (R.pair R.bool R.bool)))))))))))))

noncomputable def pLatchT (c : TC) (l : Bool × Bool × Bool × Bool × Bool × Bool × Bool × Bool × Bool) : RT TC :=
  .br (c.1 != 2)
  (.leaf (c))
  (.leaf ((c.1, c.2.1, c.2.2.1, c.2.2.2.1, c.2.2.2.2.1, c.2.2.2.2.2.1, l.2.2.2.2.1 && (c.2.2.2.2.2.2.1 || !c.2.2.2.2.2.2.2.2.1), c.2.2.2.2.2.2.2.1 || l.2.2.2.2.2.1 && !c.2.2.2.2.2.2.2.2.2.1, l.2.2.2.2.1, l.2.2.2.2.2.1, c.2.2.2.2.2.2.2.2.2.2)))

noncomputable def pLatch (c : TC) (l : Bool × Bool × Bool × Bool × Bool × Bool × Bool × Bool × Bool) : TC := (pLatchT c l).val

noncomputable def pLatchE : Entry := pureE pLatchTs pLatchRs (fun _ => none) (fun a => pLatch a.1 a.2)

theorem pLatch_ok : EntryOk Tryz.prog 128 pLatchE :=
  pure_tot (P := Tryz.prog) (n := 31) (k := 8) (l := []) (ol := []) trivial Tryz.func128 rfl (by kernel_rfl) Tryz.call128 trivial (ts := pLatchTs) (rs := pLatchRs) (t := fun a => pLatchT a.1 a.2) (fun a => by kernel_rfl)

abbrev rLatchTs : List Sh := [Sh.agg (R.pair (R.int IntKind.i64) (R.pair (R.pair (R.int IntKind.u8) (R.pair (R.int IntKind.u8) (R.pair (R.int IntKind.u8) (R.pair (R.int IntKind.u8) (R.pair (R.int IntKind.u8) (R.pair (R.int IntKind.u8) (R.pair (R.int IntKind.u8) (R.pair (R.pair R.bool (R.pair R.bool (R.pair R.bool (R.pair R.bool (R.pair R.bool (R.pair R.bool R.bool)))))) (R.pair (R.int IntKind.u16) (R.int IntKind.u16)))))))))) (R.pair R.bool (R.pair R.bool (R.pair R.bool (R.pair (R.int IntKind.u8) (R.pair R.bool (R.pair R.bool (R.pair R.bool (R.pair R.bool (R.pair R.bool (R.pair R.bool R.bool)))))))))))), Sh.agg (R.pair R.bool (R.pair R.bool (R.pair R.bool (R.pair R.bool (R.pair R.bool (R.pair R.bool (R.pair R.bool (R.pair R.bool R.bool))))))))]

abbrev rLatchRs : Rs := Rs.one (Sh.agg (R.pair (R.int IntKind.i64) (R.pair (R.pair (R.int IntKind.u8) (R.pair (R.int IntKind.u8) (R.pair (R.int IntKind.u8) (R.pair (R.int IntKind.u8) (R.pair (R.int IntKind.u8) (R.pair (R.int IntKind.u8) (R.pair (R.int IntKind.u8) (R.pair (R.pair R.bool (R.pair R.bool (R.pair R.bool (R.pair R.bool (R.pair R.bool (R.pair R.bool R.bool)))))) (R.pair (R.int IntKind.u16) (R.int IntKind.u16)))))))))) (R.pair R.bool (R.pair R.bool (R.pair R.bool (R.pair (R.int IntKind.u8) (R.pair R.bool (R.pair R.bool (R.pair R.bool (R.pair R.bool (R.pair R.bool (R.pair R.bool R.bool)))))))))))))

noncomputable def rLatchT (c : TC) (l : Bool × Bool × Bool × Bool × Bool × Bool × Bool × Bool × Bool) : RT TC :=
  .br (!rOn c.1)
  (.leaf (c))
  (.leaf ((c.1, c.2.1, c.2.2.1, c.2.2.2.1, c.2.2.2.2.1, c.2.2.2.2.2.1, l.2.2.2.2.1 && (c.2.2.2.2.2.2.1 || !c.2.2.2.2.2.2.2.2.1), c.2.2.2.2.2.2.2.1 || l.2.2.2.2.2.1 && !c.2.2.2.2.2.2.2.2.2.1, l.2.2.2.2.1, l.2.2.2.2.2.1, c.2.2.2.2.2.2.2.2.2.2)))

noncomputable def rLatch (c : TC) (l : Bool × Bool × Bool × Bool × Bool × Bool × Bool × Bool × Bool) : TC := (rLatchT c l).val

noncomputable def rLatchE : Entry := pureE rLatchTs rLatchRs (fun _ => none) (fun a => rLatch a.1 a.2)

theorem rLatch_ok : EntryOk Tryz.prog 90 rLatchE :=
  pure_tot (P := Tryz.prog) (n := 31) (k := 8) (l := [(68, rOnE)]) (ol := []) ⟨rOn_ok, trivial⟩ Tryz.func90 rfl (by kernel_rfl) Tryz.call90 trivial (ts := rLatchTs) (rs := rLatchRs) (t := fun a => rLatchT a.1 a.2) (fun a => by kernel_rfl)

abbrev pPickTs : List Sh := [Sh.agg (R.pair (R.int IntKind.i64) (R.pair (R.pair (R.int IntKind.u8) (R.pair (R.int IntKind.u8) (R.pair (R.int IntKind.u8) (R.pair (R.int IntKind.u8) (R.pair (R.int IntKind.u8) (R.pair (R.int IntKind.u8) (R.pair (R.int IntKind.u8) (R.pair (R.pair R.bool (R.pair R.bool (R.pair R.bool (R.pair R.bool (R.pair R.bool (R.pair R.bool R.bool)))))) (R.pair (R.int IntKind.u16) (R.int IntKind.u16)))))))))) (R.pair R.bool (R.pair R.bool (R.pair R.bool (R.pair (R.int IntKind.u8) (R.pair R.bool (R.pair R.bool (R.pair R.bool (R.pair R.bool (R.pair R.bool (R.pair R.bool R.bool)))))))))))), Sh.agg (R.pair R.bool (R.pair R.bool (R.pair R.bool (R.pair R.bool (R.pair R.bool (R.pair R.bool (R.pair R.bool (R.pair R.bool R.bool))))))))]

abbrev pPickRs : Rs := Rs.one (Sh.one (R.int IntKind.i64))

noncomputable def pPickT (c : TC) (l : Bool × Bool × Bool × Bool × Bool × Bool × Bool × Bool × Bool) : RT (Int) :=
  .br (c.1 == 2 && c.2.2.2.2.2.2.1)
  (.leaf (1))
  (.br (!c.2.2.1 || c.2.2.2.1)
   (.leaf (0))
   (.br (c.1 == 2 && (c.2.2.2.2.2.2.2.1 && andI IntKind.u8 c.2.2.2.2.2.1 4 == 0))
    (.leaf (2))
    (.br (c.1 == 2 && (l.2.2.2.2.2.2.1 && andI IntKind.u8 c.2.2.2.2.2.1 2 == 0))
     (.leaf (3))
     (.br (c.1 == 2 && (l.2.2.2.2.2.2.2.1 && andI IntKind.u8 c.2.2.2.2.2.1 1 == 0))
      (.leaf (4))
      (.br l.2.2.2.2.2.2.2.2
       (.leaf (5))
       (.leaf (0)))))))

noncomputable def pPick (c : TC) (l : Bool × Bool × Bool × Bool × Bool × Bool × Bool × Bool × Bool) : Int := (pPickT c l).val

noncomputable def pPickE : Entry := pureE pPickTs pPickRs (fun _ => none) (fun a => pPick a.1 a.2)

theorem pPick_ok : EntryOk Tryz.prog 132 pPickE :=
  pure_tot (P := Tryz.prog) (n := 576601524159939135) (k := 8) (l := []) (ol := []) trivial Tryz.func132 rfl (by kernel_rfl) Tryz.call132 trivial (ts := pPickTs) (rs := pPickRs) (t := fun a => pPickT a.1 a.2) (fun a => by kernel_rfl)

abbrev rPickTs : List Sh := [Sh.agg (R.pair (R.int IntKind.i64) (R.pair (R.pair (R.int IntKind.u8) (R.pair (R.int IntKind.u8) (R.pair (R.int IntKind.u8) (R.pair (R.int IntKind.u8) (R.pair (R.int IntKind.u8) (R.pair (R.int IntKind.u8) (R.pair (R.int IntKind.u8) (R.pair (R.pair R.bool (R.pair R.bool (R.pair R.bool (R.pair R.bool (R.pair R.bool (R.pair R.bool R.bool)))))) (R.pair (R.int IntKind.u16) (R.int IntKind.u16)))))))))) (R.pair R.bool (R.pair R.bool (R.pair R.bool (R.pair (R.int IntKind.u8) (R.pair R.bool (R.pair R.bool (R.pair R.bool (R.pair R.bool (R.pair R.bool (R.pair R.bool R.bool)))))))))))), Sh.agg (R.pair R.bool (R.pair R.bool (R.pair R.bool (R.pair R.bool (R.pair R.bool (R.pair R.bool (R.pair R.bool (R.pair R.bool R.bool))))))))]

abbrev rPickRs : Rs := Rs.one (Sh.one (R.int IntKind.i64))

noncomputable def rPickT (c : TC) (l : Bool × Bool × Bool × Bool × Bool × Bool × Bool × Bool × Bool) : RT (Int) :=
  .br (rOn c.1 && c.2.2.2.2.2.2.1)
  (.leaf (1))
  (.br (!c.2.2.1 || c.2.2.2.1)
   (.leaf (0))
   (.br (rOn c.1 && (c.2.2.2.2.2.2.2.1 && andI IntKind.u8 c.2.2.2.2.2.1 4 == 0))
    (.leaf (2))
    (.br (rOn c.1 && (l.2.2.2.2.2.2.1 && andI IntKind.u8 c.2.2.2.2.2.1 2 == 0))
     (.leaf (3))
     (.br (rOn c.1 && (l.2.2.2.2.2.2.2.1 && andI IntKind.u8 c.2.2.2.2.2.1 1 == 0))
      (.leaf (4))
      (.br l.2.2.2.2.2.2.2.2
       (.leaf (5))
       (.leaf (0)))))))

noncomputable def rPick (c : TC) (l : Bool × Bool × Bool × Bool × Bool × Bool × Bool × Bool × Bool) : Int := (rPickT c l).val

noncomputable def rPickE : Entry := pureE rPickTs rPickRs (fun _ => none) (fun a => rPick a.1 a.2)

theorem rPick_ok : EntryOk Tryz.prog 92 rPickE :=
  pure_tot (P := Tryz.prog) (n := 576601524159939135) (k := 8) (l := [(68, rOnE)]) (ol := []) ⟨rOn_ok, trivial⟩ Tryz.func92 rfl (by kernel_rfl) Tryz.call92 trivial (ts := rPickTs) (rs := rPickRs) (t := fun a => rPickT a.1 a.2) (fun a => by kernel_rfl)

abbrev pAcceptTs : List Sh := [Sh.agg (R.pair (R.int IntKind.i64) (R.pair (R.pair (R.int IntKind.u8) (R.pair (R.int IntKind.u8) (R.pair (R.int IntKind.u8) (R.pair (R.int IntKind.u8) (R.pair (R.int IntKind.u8) (R.pair (R.int IntKind.u8) (R.pair (R.int IntKind.u8) (R.pair (R.pair R.bool (R.pair R.bool (R.pair R.bool (R.pair R.bool (R.pair R.bool (R.pair R.bool R.bool)))))) (R.pair (R.int IntKind.u16) (R.int IntKind.u16)))))))))) (R.pair R.bool (R.pair R.bool (R.pair R.bool (R.pair (R.int IntKind.u8) (R.pair R.bool (R.pair R.bool (R.pair R.bool (R.pair R.bool (R.pair R.bool (R.pair R.bool R.bool)))))))))))), Sh.one (R.int IntKind.i64)]

abbrev pAcceptRs : Rs := Rs.one (Sh.agg (R.pair (R.int IntKind.i64) (R.pair (R.pair (R.int IntKind.u8) (R.pair (R.int IntKind.u8) (R.pair (R.int IntKind.u8) (R.pair (R.int IntKind.u8) (R.pair (R.int IntKind.u8) (R.pair (R.int IntKind.u8) (R.pair (R.int IntKind.u8) (R.pair (R.pair R.bool (R.pair R.bool (R.pair R.bool (R.pair R.bool (R.pair R.bool (R.pair R.bool R.bool)))))) (R.pair (R.int IntKind.u16) (R.int IntKind.u16)))))))))) (R.pair R.bool (R.pair R.bool (R.pair R.bool (R.pair (R.int IntKind.u8) (R.pair R.bool (R.pair R.bool (R.pair R.bool (R.pair R.bool (R.pair R.bool (R.pair R.bool R.bool)))))))))))))

noncomputable def pAcceptT (c : TC) (s : Int) : RT TC :=
  .br (decide (s < 1) || decide (s > 5))
  (.leaf (c))
  (.leaf ((c.1, c.2.1, false, false, false, c.2.2.2.2.2.1, !s == 1 && c.2.2.2.2.2.2.1, bif s == 1 then c.2.2.2.2.2.2.2.1 else !s == 2 && c.2.2.2.2.2.2.2.1, c.2.2.2.2.2.2.2.2.1, c.2.2.2.2.2.2.2.2.2.1, s == 1 || c.2.2.2.2.2.2.2.2.2.2.1, bif s == 1 then c.2.2.1 else c.2.2.2.2.2.2.2.2.2.2.2.1, c.2.2.2.2.2.2.2.2.2.2.2.2)))

noncomputable def pAccept (c : TC) (s : Int) : TC := (pAcceptT c s).val

noncomputable def pAcceptE : Entry := pureE pAcceptTs pAcceptRs (fun _ => none) (fun a => pAccept a.1 a.2)

theorem pAccept_ok : EntryOk Tryz.prog 164 pAcceptE :=
  pure_tot (P := Tryz.prog) (n := 1056799) (k := 8) (l := []) (ol := []) trivial Tryz.func164 rfl (by kernel_rfl) Tryz.call164 trivial (ts := pAcceptTs) (rs := pAcceptRs) (t := fun a => pAcceptT a.1 a.2) (fun a => by kernel_rfl)

abbrev rAcceptTs : List Sh := [Sh.agg (R.pair (R.int IntKind.i64) (R.pair (R.pair (R.int IntKind.u8) (R.pair (R.int IntKind.u8) (R.pair (R.int IntKind.u8) (R.pair (R.int IntKind.u8) (R.pair (R.int IntKind.u8) (R.pair (R.int IntKind.u8) (R.pair (R.int IntKind.u8) (R.pair (R.pair R.bool (R.pair R.bool (R.pair R.bool (R.pair R.bool (R.pair R.bool (R.pair R.bool R.bool)))))) (R.pair (R.int IntKind.u16) (R.int IntKind.u16)))))))))) (R.pair R.bool (R.pair R.bool (R.pair R.bool (R.pair (R.int IntKind.u8) (R.pair R.bool (R.pair R.bool (R.pair R.bool (R.pair R.bool (R.pair R.bool (R.pair R.bool R.bool)))))))))))), Sh.one (R.int IntKind.i64)]

abbrev rAcceptRs : Rs := Rs.one (Sh.agg (R.pair (R.int IntKind.i64) (R.pair (R.pair (R.int IntKind.u8) (R.pair (R.int IntKind.u8) (R.pair (R.int IntKind.u8) (R.pair (R.int IntKind.u8) (R.pair (R.int IntKind.u8) (R.pair (R.int IntKind.u8) (R.pair (R.int IntKind.u8) (R.pair (R.pair R.bool (R.pair R.bool (R.pair R.bool (R.pair R.bool (R.pair R.bool (R.pair R.bool R.bool)))))) (R.pair (R.int IntKind.u16) (R.int IntKind.u16)))))))))) (R.pair R.bool (R.pair R.bool (R.pair R.bool (R.pair (R.int IntKind.u8) (R.pair R.bool (R.pair R.bool (R.pair R.bool (R.pair R.bool (R.pair R.bool (R.pair R.bool R.bool)))))))))))))

noncomputable def rAcceptT (c : TC) (s : Int) : RT TC :=
  .br (decide (s < 1) || decide (s > 5))
  (.leaf (c))
  (.leaf ((c.1, c.2.1, false, false, false, c.2.2.2.2.2.1, !s == 1 && c.2.2.2.2.2.2.1, !s == 2 && c.2.2.2.2.2.2.2.1, c.2.2.2.2.2.2.2.2.1, c.2.2.2.2.2.2.2.2.2.1, s == 1 || c.2.2.2.2.2.2.2.2.2.2.1, bif s == 1 then c.2.2.1 else c.2.2.2.2.2.2.2.2.2.2.2.1, c.2.2.2.2.2.2.2.2.2.2.2.2)))

noncomputable def rAccept (c : TC) (s : Int) : TC := (rAcceptT c s).val

noncomputable def rAcceptE : Entry := pureE rAcceptTs rAcceptRs (fun _ => none) (fun a => rAccept a.1 a.2)

theorem rAccept_ok : EntryOk Tryz.prog 104 rAcceptE :=
  pure_tot (P := Tryz.prog) (n := 31) (k := 8) (l := []) (ol := []) trivial Tryz.func104 rfl (by kernel_rfl) Tryz.call104 trivial (ts := rAcceptTs) (rs := rAcceptRs) (t := fun a => rAcceptT a.1 a.2) (fun a => by kernel_rfl)

abbrev pResetTs : List Sh := [Sh.agg (R.pair (R.int IntKind.i64) (R.pair (R.pair (R.int IntKind.u8) (R.pair (R.int IntKind.u8) (R.pair (R.int IntKind.u8) (R.pair (R.int IntKind.u8) (R.pair (R.int IntKind.u8) (R.pair (R.int IntKind.u8) (R.pair (R.int IntKind.u8) (R.pair (R.pair R.bool (R.pair R.bool (R.pair R.bool (R.pair R.bool (R.pair R.bool (R.pair R.bool R.bool)))))) (R.pair (R.int IntKind.u16) (R.int IntKind.u16)))))))))) (R.pair R.bool (R.pair R.bool (R.pair R.bool (R.pair (R.int IntKind.u8) (R.pair R.bool (R.pair R.bool (R.pair R.bool (R.pair R.bool (R.pair R.bool (R.pair R.bool R.bool))))))))))))]

abbrev pResetRs : Rs := Rs.one (Sh.agg (R.pair (R.int IntKind.i64) (R.pair (R.pair (R.int IntKind.u8) (R.pair (R.int IntKind.u8) (R.pair (R.int IntKind.u8) (R.pair (R.int IntKind.u8) (R.pair (R.int IntKind.u8) (R.pair (R.int IntKind.u8) (R.pair (R.int IntKind.u8) (R.pair (R.pair R.bool (R.pair R.bool (R.pair R.bool (R.pair R.bool (R.pair R.bool (R.pair R.bool R.bool)))))) (R.pair (R.int IntKind.u16) (R.int IntKind.u16)))))))))) (R.pair R.bool (R.pair R.bool (R.pair R.bool (R.pair (R.int IntKind.u8) (R.pair R.bool (R.pair R.bool (R.pair R.bool (R.pair R.bool (R.pair R.bool (R.pair R.bool R.bool)))))))))))))

noncomputable def pResetT (c : TC) : RT TC :=
  .leaf ((c.1, (c.2.1.1, c.2.1.2.1, c.2.1.2.2.1, c.2.1.2.2.2.1, c.2.1.2.2.2.2.1, c.2.1.2.2.2.2.2.1, c.2.1.2.2.2.2.2.2.1, c.2.1.2.2.2.2.2.2.2.1, c.2.1.2.2.2.2.2.2.2.2.1, 0), false, false, false, bif c.1 == 2 then 7 else 0, false, false, false, false, false, false, false))

noncomputable def pReset (c : TC) : TC := (pResetT c).val

noncomputable def pResetE : Entry := pureE pResetTs pResetRs (fun _ => none) (fun a => pReset a)

theorem pReset_ok : EntryOk Tryz.prog 64 pResetE :=
  pure_tot (P := Tryz.prog) (n := 15) (k := 8) (l := []) (ol := []) trivial Tryz.func64 rfl (by kernel_rfl) Tryz.call64 trivial (ts := pResetTs) (rs := pResetRs) (t := fun a => pResetT a) (fun a => by kernel_rfl)

abbrev rResetTs : List Sh := [Sh.agg (R.pair (R.int IntKind.i64) (R.pair (R.pair (R.int IntKind.u8) (R.pair (R.int IntKind.u8) (R.pair (R.int IntKind.u8) (R.pair (R.int IntKind.u8) (R.pair (R.int IntKind.u8) (R.pair (R.int IntKind.u8) (R.pair (R.int IntKind.u8) (R.pair (R.pair R.bool (R.pair R.bool (R.pair R.bool (R.pair R.bool (R.pair R.bool (R.pair R.bool R.bool)))))) (R.pair (R.int IntKind.u16) (R.int IntKind.u16)))))))))) (R.pair R.bool (R.pair R.bool (R.pair R.bool (R.pair (R.int IntKind.u8) (R.pair R.bool (R.pair R.bool (R.pair R.bool (R.pair R.bool (R.pair R.bool (R.pair R.bool R.bool))))))))))))]

abbrev rResetRs : Rs := Rs.one (Sh.agg (R.pair (R.int IntKind.i64) (R.pair (R.pair (R.int IntKind.u8) (R.pair (R.int IntKind.u8) (R.pair (R.int IntKind.u8) (R.pair (R.int IntKind.u8) (R.pair (R.int IntKind.u8) (R.pair (R.int IntKind.u8) (R.pair (R.int IntKind.u8) (R.pair (R.pair R.bool (R.pair R.bool (R.pair R.bool (R.pair R.bool (R.pair R.bool (R.pair R.bool R.bool)))))) (R.pair (R.int IntKind.u16) (R.int IntKind.u16)))))))))) (R.pair R.bool (R.pair R.bool (R.pair R.bool (R.pair (R.int IntKind.u8) (R.pair R.bool (R.pair R.bool (R.pair R.bool (R.pair R.bool (R.pair R.bool (R.pair R.bool R.bool)))))))))))))

noncomputable def rResetT (c : TC) : RT TC :=
  .leaf ((c.1, (c.2.1.1, c.2.1.2.1, c.2.1.2.2.1, c.2.1.2.2.2.1, c.2.1.2.2.2.2.1, c.2.1.2.2.2.2.2.1, c.2.1.2.2.2.2.2.2.1, c.2.1.2.2.2.2.2.2.2.1, c.2.1.2.2.2.2.2.2.2.2.1, 0), false, false, false, bif rOn c.1 then 7 else 0, false, false, false, false, false, false, false))

noncomputable def rReset (c : TC) : TC := (rResetT c).val

noncomputable def rResetE : Entry := pureE rResetTs rResetRs (fun _ => none) (fun a => rReset a)

theorem rReset_ok : EntryOk Tryz.prog 55 rResetE :=
  pure_tot (P := Tryz.prog) (n := 15) (k := 8) (l := [(68, rOnE)]) (ol := []) ⟨rOn_ok, trivial⟩ Tryz.func55 rfl (by kernel_rfl) Tryz.call55 trivial (ts := rResetTs) (rs := rResetRs) (t := fun a => rResetT a) (fun a => by kernel_rfl)

abbrev rReadsTs : List Sh := [Sh.one (R.int IntKind.i64)]

abbrev rReadsRs : Rs := Rs.one (Sh.one R.bool)

noncomputable def rReadsT (k : Int) : RT (Bool) :=
  .leaf (k == 1 || (k == 2 || (k == 4 || (k == 6 || (k == 8 || k == 9)))))

noncomputable def rReads (k : Int) : Bool := (rReadsT k).val

noncomputable def rReadsE : Entry := pureE rReadsTs rReadsRs (fun _ => none) (fun a => rReads a)

theorem rReads_ok : EntryOk Tryz.prog 22 rReadsE :=
  pure_tot (P := Tryz.prog) (n := 7) (k := 8) (l := []) (ol := []) trivial Tryz.func22 rfl (by kernel_rfl) Tryz.call22 trivial (ts := rReadsTs) (rs := rReadsRs) (t := fun a => rReadsT a) (fun a => by kernel_rfl)

abbrev pReadsTs : List Sh := [Sh.one (R.int IntKind.i64)]

abbrev pReadsRs : Rs := Rs.one (Sh.one R.bool)

noncomputable def pReadsT (k : Int) : RT (Bool) :=
  .br (bif k == 1 then k == 1 else bif k == 2 then k == 2 else bif k == 4 then k == 4 else bif k == 6 then k == 6 else bif k == 8 then k == 8 else k == 9)
  (.leaf (true))
  (.leaf (false))

noncomputable def pReads (k : Int) : Bool := (pReadsT k).val

noncomputable def pReadsE : Entry := pureE pReadsTs pReadsRs (fun _ => none) (fun a => pReads a)

theorem pReads_ok : EntryOk Tryz.prog 124 pReadsE :=
  pure_tot (P := Tryz.prog) (n := 23) (k := 8) (l := []) (ol := []) trivial Tryz.func124 rfl (by kernel_rfl) Tryz.call124 trivial (ts := pReadsTs) (rs := pReadsRs) (t := fun a => pReadsT a) (fun a => by kernel_rfl)

abbrev rWritesTs : List Sh := [Sh.one (R.int IntKind.i64)]

abbrev rWritesRs : Rs := Rs.one (Sh.one R.bool)

noncomputable def rWritesT (k : Int) : RT (Bool) :=
  .leaf (k == 3 || (k == 5 || k == 7))

noncomputable def rWrites (k : Int) : Bool := (rWritesT k).val

noncomputable def rWritesE : Entry := pureE rWritesTs rWritesRs (fun _ => none) (fun a => rWrites a)

theorem rWrites_ok : EntryOk Tryz.prog 106 rWritesE :=
  pure_tot (P := Tryz.prog) (n := 7) (k := 8) (l := []) (ol := []) trivial Tryz.func106 rfl (by kernel_rfl) Tryz.call106 trivial (ts := rWritesTs) (rs := rWritesRs) (t := fun a => rWritesT a) (fun a => by kernel_rfl)

abbrev pWritesTs : List Sh := [Sh.one (R.int IntKind.i64)]

abbrev pWritesRs : Rs := Rs.one (Sh.one R.bool)

noncomputable def pWritesT (k : Int) : RT (Bool) :=
  .leaf (k == 3 || (k == 5 || k == 7))

noncomputable def pWrites (k : Int) : Bool := (pWritesT k).val

noncomputable def pWritesE : Entry := pureE pWritesTs pWritesRs (fun _ => none) (fun a => pWrites a)

theorem pWrites_ok : EntryOk Tryz.prog 123 pWritesE :=
  pure_tot (P := Tryz.prog) (n := 7) (k := 8) (l := []) (ol := []) trivial Tryz.func123 rfl (by kernel_rfl) Tryz.call123 trivial (ts := pWritesTs) (rs := pWritesRs) (t := fun a => pWritesT a) (fun a => by kernel_rfl)

abbrev pStatusTs : List Sh := [Sh.one (R.int IntKind.i64)]

abbrev pStatusRs : Rs := Rs.one (Sh.one (R.int IntKind.u8))

noncomputable def pStatusT (k : Int) : RT (Int) :=
  .br (k == 1)
  (.leaf (162))
  (.br (k == 2)
   (.leaf (130))
   (.br (k == 4)
    (.leaf (134))
    (.br (k == 5)
     (.leaf (4))
     (.br (k == 6)
      (.leaf (66))
      (.br (k == 7)
       (.leaf (16))
       (.br (k == 8)
        (.leaf (35))
        (.br (k == 9)
         (.leaf (3))
         (.br (k == 10)
          (.leaf (138))
          (.leaf (0))))))))))

noncomputable def pStatus (k : Int) : Int := (pStatusT k).val

noncomputable def pStatusE : Entry := pureE pStatusTs pStatusRs (fun _ => none) (fun a => pStatus a)

theorem pStatus_ok : EntryOk Tryz.prog 177 pStatusE :=
  pure_tot (P := Tryz.prog) (n := 1398103) (k := 8) (l := []) (ol := []) trivial Tryz.func177 rfl (by kernel_rfl) Tryz.call177 trivial (ts := pStatusTs) (rs := pStatusRs) (t := fun a => pStatusT a) (fun a => by kernel_rfl)

abbrev rStatusTs : List Sh := [Sh.one (R.int IntKind.i64)]

abbrev rStatusRs : Rs := Rs.one (Sh.one (R.int IntKind.u8))

noncomputable def rStatusT (k : Int) : RT (Int) :=
  .br (k == 1)
  (.leaf (162))
  (.br (k == 2)
   (.leaf (130))
   (.br (k == 4)
    (.leaf (134))
    (.br (k == 5)
     (.leaf (4))
     (.br (k == 6)
      (.leaf (66))
      (.br (k == 7)
       (.leaf (16))
       (.br (k == 8)
        (.leaf (35))
        (.br (k == 9)
         (.leaf (3))
         (.br (k == 10)
          (.leaf (138))
          (.leaf (0))))))))))

noncomputable def rStatus (k : Int) : Int := (rStatusT k).val

noncomputable def rStatusE : Entry := pureE rStatusTs rStatusRs (fun _ => none) (fun a => rStatus a)

theorem rStatus_ok : EntryOk Tryz.prog 160 rStatusE :=
  pure_tot (P := Tryz.prog) (n := 1398103) (k := 8) (l := []) (ol := []) trivial Tryz.func160 rfl (by kernel_rfl) Tryz.call160 trivial (ts := rStatusTs) (rs := rStatusRs) (t := fun a => rStatusT a) (fun a => by kernel_rfl)

abbrev pLevelsTs : List Sh := [Sh.one (R.int IntKind.i64)]

abbrev pLevelsRs : Rs := Rs.tup [Sh.one R.bool, Sh.one R.bool, Sh.one R.bool]

noncomputable def pLevelsT (k : Int) : RT (Bool × Bool × Bool) :=
  .br (k == 1)
  (.leaf ((false, true, true)))
  (.br (bif k == 2 then k == 2 else bif k == 4 then k == 4 else k == 11)
   (.leaf ((false, true, false)))
   (.br (bif k == 3 then k == 3 else k == 5)
    (.leaf ((false, false, true)))
    (.br (k == 6)
     (.leaf ((true, true, false)))
     (.br (k == 7)
      (.leaf ((true, false, true)))
      (.br (bif k == 8 then k == 8 else bif k == 9 then k == 9 else k == 12)
       (.leaf ((true, true, true)))
       (.leaf ((false, false, false))))))))

noncomputable def pLevels (k : Int) : Bool × Bool × Bool := (pLevelsT k).val

noncomputable def pLevelsE : Entry := pureE pLevelsTs pLevelsRs (fun _ => none) (fun a => pLevels a)

theorem pLevels_ok : EntryOk Tryz.prog 176 pLevelsE :=
  pure_tot (P := Tryz.prog) (n := 692575) (k := 8) (l := []) (ol := []) trivial Tryz.func176 rfl (by kernel_rfl) Tryz.call176 trivial (ts := pLevelsTs) (rs := pLevelsRs) (t := fun a => pLevelsT a) (fun a => by kernel_rfl)

abbrev rLevelsTs : List Sh := [Sh.one (R.int IntKind.i64)]

abbrev rLevelsRs : Rs := Rs.tup [Sh.one R.bool, Sh.one R.bool, Sh.one R.bool]

noncomputable def rLevelsT (k : Int) : RT (Bool × Bool × Bool) :=
  .br (k == 1)
  (.leaf ((false, true, true)))
  (.br (bif k == 2 then k == 2 else bif k == 4 then k == 4 else k == 11)
   (.leaf ((false, true, false)))
   (.br (bif k == 3 then k == 3 else k == 5)
    (.leaf ((false, false, true)))
    (.br (k == 6)
     (.leaf ((true, true, false)))
     (.br (k == 7)
      (.leaf ((true, false, true)))
      (.br (bif k == 8 then k == 8 else bif k == 9 then k == 9 else k == 12)
       (.leaf ((true, true, true)))
       (.leaf ((false, false, false))))))))

noncomputable def rLevels (k : Int) : Bool × Bool × Bool := (rLevelsT k).val

noncomputable def rLevelsE : Entry := pureE rLevelsTs rLevelsRs (fun _ => none) (fun a => rLevels a)

theorem rLevels_ok : EntryOk Tryz.prog 159 rLevelsE :=
  pure_tot (P := Tryz.prog) (n := 692575) (k := 8) (l := []) (ol := []) trivial Tryz.func159 rfl (by kernel_rfl) Tryz.call159 trivial (ts := rLevelsTs) (rs := rLevelsRs) (t := fun a => rLevelsT a) (fun a => by kernel_rfl)

abbrev pAcceptsTs : List Sh := [Sh.one (R.int IntKind.i64)]

abbrev pAcceptsRs : Rs := Rs.one (Sh.one R.bool)

noncomputable def pAcceptsT (k : Int) : RT (Bool) :=
  .leaf (k != 10 && (k != 11 && k != 12))

noncomputable def pAccepts (k : Int) : Bool := (pAcceptsT k).val

noncomputable def pAcceptsE : Entry := pureE pAcceptsTs pAcceptsRs (fun _ => none) (fun a => pAccepts a)

theorem pAccepts_ok : EntryOk Tryz.prog 97 pAcceptsE :=
  pure_tot (P := Tryz.prog) (n := 7) (k := 8) (l := []) (ol := []) trivial Tryz.func97 rfl (by kernel_rfl) Tryz.call97 trivial (ts := pAcceptsTs) (rs := pAcceptsRs) (t := fun a => pAcceptsT a) (fun a => by kernel_rfl)

abbrev rAcceptsTs : List Sh := [Sh.one (R.int IntKind.i64)]

abbrev rAcceptsRs : Rs := Rs.one (Sh.one R.bool)

noncomputable def rAcceptsT (k : Int) : RT (Bool) :=
  .leaf (k != 10 && (k != 11 && k != 12))

noncomputable def rAccepts (k : Int) : Bool := (rAcceptsT k).val

noncomputable def rAcceptsE : Entry := pureE rAcceptsTs rAcceptsRs (fun _ => none) (fun a => rAccepts a)

theorem rAccepts_ok : EntryOk Tryz.prog 31 rAcceptsE :=
  pure_tot (P := Tryz.prog) (n := 7) (k := 8) (l := []) (ol := []) trivial Tryz.func31 rfl (by kernel_rfl) Tryz.call31 trivial (ts := rAcceptsTs) (rs := rAcceptsRs) (t := fun a => rAcceptsT a) (fun a => by kernel_rfl)
end
end Go.Proofs.YteboknglfjadoaaGreat
