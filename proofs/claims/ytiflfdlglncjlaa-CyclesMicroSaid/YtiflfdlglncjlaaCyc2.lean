/-
  Contracts of functions; each found by the symbolic executor and checked by the kernel. Conditions: none.
-/
import Derived.Test.YtiflfdlglncjlaaS3D
import Derived.Test.YtiflfdlglncjlaaProg
import Derived.Test.YtiflfdlglncjlaaCycEq
import Derived.Test.YtiflfdlglncjlaaMake
set_option linter.unusedSimpArgs false
open Go Go.S3 Go.Proofs
set_option linter.unusedVariables false
set_option maxRecDepth 100000
namespace Go.Proofs.Ytiflfdlglncjlaa
noncomputable section
abbrev rMemoryTs : List Sh := [Sh.agg (R.pair (R.int IntKind.i64) (R.pair (R.int IntKind.i64) (R.pair (R.int IntKind.i64) (R.pair (R.int IntKind.i64) (R.pair (R.int IntKind.i64) (R.pair (R.int IntKind.i64) (R.pair (R.int IntKind.i64) (R.int IntKind.i64))))))))]

abbrev rMemoryRs : Rs := Rs.one (Sh.one R.bool)

noncomputable def rMemoryT (i : Int × Int × Int × Int × Int × Int × Int × Int) : RT (Bool) :=
  .br (i.1 == 2)
  (.leaf (i.2.2.1 == 6 || i.2.2.2.1 == 6))
  (.br (bif i.1 == 3 then i.1 == 3 else bif i.1 == 14 then i.1 == 14 else i.1 == 15)
   (.leaf (i.2.2.1 == 6))
   (.br (i.1 == 12)
    (.leaf (i.2.2.2.1 == 6))
    (.leaf (false))))

noncomputable def rMemory (i : Int × Int × Int × Int × Int × Int × Int × Int) : Bool := (rMemoryT i).val

noncomputable def rMemoryE : Entry := pureE rMemoryTs rMemoryRs (fun _ => none) (fun a => rMemory a)

theorem rMemory_ok : EntryOk Try.prog 96 rMemoryE :=
  pure_tot (P := Try.prog) (n := 4227111) (k := 8) (l := []) (ol := []) trivial Try.func96 rfl (by kernel_rfl) Try.call96 trivial (ts := rMemoryTs) (rs := rMemoryRs) (t := fun a => rMemoryT a) (fun a => by kernel_rfl)

abbrev rEitherTs : List Sh := [Sh.one R.bool, Sh.one (R.int IntKind.i64), Sh.one (R.int IntKind.i64)]

abbrev rEitherRs : Rs := Rs.one (Sh.one (R.int IntKind.i64))

noncomputable def rEitherT (b : Bool) (x : Int) (y : Int) : RT (Int) :=
  .br (b)
  (.leaf (x))
  (.leaf (y))

noncomputable def rEither (b : Bool) (x : Int) (y : Int) : Int := (rEitherT b x y).val

noncomputable def rEitherE : Entry := pureE rEitherTs rEitherRs (fun _ => none) (fun a => rEither a.1 a.2.1 a.2.2)

theorem rEither_ok : EntryOk Try.prog 62 rEitherE :=
  pure_tot (P := Try.prog) (n := 127) (k := 8) (l := []) (ol := []) trivial Try.func62 rfl (by kernel_rfl) Try.call62 trivial (ts := rEitherTs) (rs := rEitherRs) (t := fun a => rEitherT a.1 a.2.1 a.2.2) (fun a => by kernel_rfl)

abbrev rCommonTs : List Sh := [Sh.agg (R.pair (R.int IntKind.i64) (R.pair (R.int IntKind.i64) (R.pair (R.int IntKind.i64) (R.pair (R.int IntKind.i64) (R.pair (R.int IntKind.i64) (R.pair (R.int IntKind.i64) (R.pair (R.int IntKind.i64) (R.int IntKind.i64))))))))]

abbrev rCommonRs : Rs := Rs.one (Sh.one (R.int IntKind.i64))

noncomputable def rCommonT (i : Int × Int × Int × Int × Int × Int × Int × Int) : RT (Int) :=
  .br (bif i.1 == 2 then i.1 == 2 else i.1 == 12)
  (.br (rMemory i)
   (.leaf (7))
   (.leaf (0)))
  (.br (bif i.1 == 9 then i.1 == 9 else bif i.1 == 10 then i.1 == 10 else i.1 == 13)
   (.leaf (7))
   (.br (i.1 == 3)
    (.br (rMemory i)
     (.leaf (10))
     (.leaf (7)))
    (.br (bif i.1 == 14 then i.1 == 14 else i.1 == 15)
     (.br (rMemory i)
      (.leaf (10))
      (.leaf (0)))
     (.br (bif i.1 == 4 then i.1 == 4 else bif i.1 == 18 then i.1 == 18 else bif i.1 == 31 then i.1 == 31 else bif i.1 == 33 then i.1 == 33 else i.1 == 34)
      (.leaf (10))
      (.br (bif i.1 == 5 then i.1 == 5 else i.1 == 6)
       (.leaf (13))
       (.br (bif i.1 == 7 then i.1 == 7 else i.1 == 8)
        (.leaf (16))
        (.br (bif i.1 == 1 then i.1 == 1 else bif i.1 == 11 then i.1 == 11 else bif i.1 == 23 then i.1 == 23 else bif i.1 == 19 then i.1 == 19 else bif i.1 == 20 then i.1 == 20 else bif i.1 == 21 then i.1 == 21 else bif i.1 == 22 then i.1 == 22 else bif i.1 == 35 then i.1 == 35 else i.1 == 36)
         (.leaf (4))
         (.br (i.1 == 26)
          (.br (i.2.2.2.2.2.2.1 == 11)
           (.leaf (10))
           (.leaf (0)))
          (.leaf (0))))))))))

noncomputable def rCommon (i : Int × Int × Int × Int × Int × Int × Int × Int) : Int := (rCommonT i).val

noncomputable def rCommonE : Entry := pureE rCommonTs rCommonRs (fun _ => none) (fun a => rCommon a)

theorem rCommon_ok : EntryOk Try.prog 61 rCommonE :=
  pure_tot (P := Try.prog) (n := 35223572333607) (k := 8) (l := [(96, rMemoryE)]) (ol := []) ⟨rMemory_ok, trivial⟩ Try.func61 rfl (by kernel_rfl) Try.call61 trivial (ts := rCommonTs) (rs := rCommonRs) (t := fun a => rCommonT a) (fun a => by kernel_rfl)

abbrev rTotal80Ts : List Sh := [Sh.agg (R.pair (R.int IntKind.i64) (R.pair (R.int IntKind.i64) (R.pair (R.int IntKind.i64) (R.pair (R.int IntKind.i64) (R.pair (R.int IntKind.i64) (R.pair (R.int IntKind.i64) (R.pair (R.int IntKind.i64) (R.int IntKind.i64)))))))), Sh.one R.bool]

abbrev rTotal80Rs : Rs := Rs.one (Sh.one (R.int IntKind.i64))

noncomputable def rTotal80T (i : Int × Int × Int × Int × Int × Int × Int × Int) (tk : Bool) : RT (Int) :=
  .br (decide (rCommon i > 0))
  (.leaf (rCommon i))
  (.br (i.1 == 24)
   (.leaf (10))
   (.br (i.1 == 25)
    (.leaf (rEither (tk || i.2.2.2.2.2.2.1 == 11) 17 11))
    (.br (i.1 == 26)
     (.leaf (rEither (tk || i.2.2.2.2.2.2.1 == 11) 11 5))
     (.br (bif i.1 == 27 then i.1 == 27 else i.1 == 30)
      (.leaf (11))
      (.br (i.1 == 32)
       (.leaf (18))
       (.br (i.1 == 37)
        (.leaf (7))
        (.br (i.1 == 12)
         (.leaf (4))
         (.leaf (5)))))))))

noncomputable def rTotal80 (i : Int × Int × Int × Int × Int × Int × Int × Int) (tk : Bool) : Int := (rTotal80T i tk).val

noncomputable def rTotal80E : Entry := pureE rTotal80Ts rTotal80Rs (fun _ => none) (fun a => rTotal80 a.1 a.2)

theorem rTotal80_ok : EntryOk Try.prog 37 rTotal80E :=
  pure_tot (P := Try.prog) (n := 90767360063) (k := 8) (l := [(61, rCommonE), (62, rEitherE)]) (ol := []) ⟨rCommon_ok, rEither_ok, trivial⟩ Try.func37 rfl (by kernel_rfl) Try.call37 trivial (ts := rTotal80Ts) (rs := rTotal80Rs) (t := fun a => rTotal80T a.1 a.2) (fun a => by kernel_rfl)

abbrev rTotal85Ts : List Sh := [Sh.agg (R.pair (R.int IntKind.i64) (R.pair (R.int IntKind.i64) (R.pair (R.int IntKind.i64) (R.pair (R.int IntKind.i64) (R.pair (R.int IntKind.i64) (R.pair (R.int IntKind.i64) (R.pair (R.int IntKind.i64) (R.int IntKind.i64)))))))), Sh.one R.bool]

abbrev rTotal85Rs : Rs := Rs.one (Sh.one (R.int IntKind.i64))

noncomputable def rTotal85T (i : Int × Int × Int × Int × Int × Int × Int × Int) (tk : Bool) : RT (Int) :=
  .br (decide (rCommon i > 0))
  (.leaf (rCommon i))
  (.br (i.1 == 24)
   (.leaf (rEither (tk || i.2.2.2.2.2.2.1 == 11) 10 7))
   (.br (i.1 == 25)
    (.leaf (rEither (tk || i.2.2.2.2.2.2.1 == 11) 18 9))
    (.br (bif i.1 == 26 then i.1 == 26 else i.1 == 45)
     (.leaf (rEither (tk || i.2.2.2.2.2.2.1 == 11) 12 6))
     (.br (bif i.1 == 27 then i.1 == 27 else i.1 == 30)
      (.leaf (12))
      (.br (i.1 == 32)
       (.leaf (16))
       (.br (i.1 == 37)
        (.leaf (5))
        (.br (bif i.1 == 16 then i.1 == 16 else bif i.1 == 17 then i.1 == 17 else bif i.1 == 28 then i.1 == 28 else i.1 == 29)
         (.leaf (6))
         (.br (bif i.1 == 40 then i.1 == 40 else bif i.1 == 42 then i.1 == 42 else bif i.1 == 43 then i.1 == 43 else bif i.1 == 44 then i.1 == 44 else bif i.1 == 46 then i.1 == 46 else i.1 == 47)
          (.leaf (10))
          (.br (i.1 == 41)
           (.leaf (7))
           (.leaf (4)))))))))))

noncomputable def rTotal85 (i : Int × Int × Int × Int × Int × Int × Int × Int) (tk : Bool) : Int := (rTotal85T i tk).val

noncomputable def rTotal85E : Entry := pureE rTotal85Ts rTotal85Rs (fun _ => none) (fun a => rTotal85 a.1 a.2)

theorem rTotal85_ok : EntryOk Try.prog 38 rTotal85E :=
  pure_tot (P := Try.prog) (n := 2270117992333375) (k := 8) (l := [(61, rCommonE), (62, rEitherE)]) (ol := []) ⟨rCommon_ok, rEither_ok, trivial⟩ Try.func38 rfl (by kernel_rfl) Try.call38 trivial (ts := rTotal85Ts) (rs := rTotal85Rs) (t := fun a => rTotal85T a.1 a.2) (fun a => by kernel_rfl)

noncomputable def itstateref1_OneE : Entry := .tree (evFunc (envX Try.prog [] [] 7 8) Try.f39)

theorem itstateref1_One_ok : EntryOk Try.prog 39 itstateref1_OneE := inl_ok (P := Try.prog) (n := 7) (k := 8) (l := []) (ol := []) trivial Try.func39 rfl (by kernel_rfl) Try.call39 trivial

abbrev rTotalTs : List Sh := [Sh.one (R.int IntKind.i64), Sh.one (R.int IntKind.u8), Sh.one R.bool]

abbrev rTotalRs : Rs := Rs.one (Sh.one (R.int IntKind.i64))

noncomputable def rTotalT (chip : Int) (op : Int) (tk : Bool) : RT (Int) :=
  .leaf (bif rOn chip then rTotal85 (rDecode chip op) tk else rTotal80 (rDecode chip op) tk)

noncomputable def rTotal (chip : Int) (op : Int) (tk : Bool) : Int := (rTotalT chip op tk).val

noncomputable def rTotalE : Entry := pureE rTotalTs rTotalRs (fun _ => none) (fun a => rTotal a.1 a.2.1 a.2.2)

theorem rTotal_ok : EntryOk Try.prog 17 rTotalE :=
  pure_tot (P := Try.prog) (n := 511) (k := 8) (l := [(23, rDecode1E), (37, rTotal80E), (38, rTotal85E), (39, itstateref1_OneE), (40, rOnE)]) (ol := []) ⟨rDecode1_ok, rTotal80_ok, rTotal85_ok, itstateref1_One_ok, rOn_ok, trivial⟩ Try.func17 rfl (by kernel_rfl) Try.call17 trivial (ts := rTotalTs) (rs := rTotalRs) (t := fun a => rTotalT a.1 a.2.1 a.2.2) (fun a => by kernel_rfl)

abbrev cTotalTs : List Sh := [Sh.one (R.int IntKind.i64), Sh.one (R.int IntKind.u8), Sh.one R.bool]

abbrev cTotalRs : Rs := Rs.one (Sh.one (R.int IntKind.i64))

noncomputable def cTotalT (chip : Int) (op : Int) (tk : Bool) : RT (Option (Int)) :=
  let x1 : Bool := !decide (IntKind.i64.wrap (0 + 1) < iN (List.length (rKinds chip op tk)))
  let x2 : Bool := decide (IntKind.i64.wrap (IntKind.i64.wrap (0 + 1) + 1) < iN (List.length (rKinds chip op tk)))
  let x3 : Bool := !x2
  let x4 : Bool := inRng (IntKind.i64.wrap (IntKind.i64.wrap (0 + 1) + 1)) (List.length (rKinds chip op tk))
  let x5 : Bool := !x4
  let x6 : Bool := decide (IntKind.i64.wrap (IntKind.i64.wrap (IntKind.i64.wrap (0 + 1) + 1) + 1) < iN (List.length (rKinds chip op tk)))
  let x7 : Bool := !x6
  let x8 : Bool := inRng (IntKind.i64.wrap (IntKind.i64.wrap (IntKind.i64.wrap (0 + 1) + 1) + 1)) (List.length (rKinds chip op tk))
  let x9 : Bool := !x8
  let x10 : Int := IntKind.i64.wrap (IntKind.i64.wrap (IntKind.i64.wrap (IntKind.i64.wrap (0 + 1) + 1) + 1) + 1)
  let x11 : Bool := decide (x10 < iN (List.length (rKinds chip op tk)))
  let x12 : Bool := !x11
  let x13 : Bool := inRng x10 (List.length (rKinds chip op tk))
  let x14 : Bool := !x13
  let x15 : Int := IntKind.i64.wrap (x10 + 1)
  let x16 : Bool := decide (x15 < iN (List.length (rKinds chip op tk)))
  let x17 : Bool := !x16
  let x18 : Bool := inRng x15 (List.length (rKinds chip op tk))
  let x19 : Bool := !x18
  let x20 : Int := IntKind.i64.wrap (x15 + 1)
  let x21 : Bool := decide (x20 < iN (List.length (rKinds chip op tk)))
  let x22 : Bool := !x21
  let x23 : Bool := inRng x20 (List.length (rKinds chip op tk))
  let x24 : Bool := !x23
  let x25 : Int := IntKind.i64.wrap (x20 + 1)
  let x26 : Bool := !decide (x25 < iN (List.length (rKinds chip op tk)))
  let x27 : Int := IntKind.i64.wrap (0 + (R.get (RY) (rKinds chip op tk) 0).2.2.2)
  let x28 : Int := IntKind.i64.wrap (x27 + (R.get (RY) (rKinds chip op tk) (IntKind.i64.wrap (0 + 1))).2.2.2)
  let x29 : Int := IntKind.i64.wrap (x28 + (R.get (RY) (rKinds chip op tk) (IntKind.i64.wrap (IntKind.i64.wrap (0 + 1) + 1))).2.2.2)
  let x30 : Int := IntKind.i64.wrap (x29 + (R.get (RY) (rKinds chip op tk) (IntKind.i64.wrap (IntKind.i64.wrap (IntKind.i64.wrap (0 + 1) + 1) + 1))).2.2.2)
  let x31 : Int := IntKind.i64.wrap (x30 + (R.get (RY) (rKinds chip op tk) x10).2.2.2)
  let x32 : Int := IntKind.i64.wrap (x31 + (R.get (RY) (rKinds chip op tk) x15).2.2.2)
  .br (!decide (0 < iN (List.length (rKinds chip op tk))) || (!inRng 0 (List.length (rKinds chip op tk)) || (x1 || (!inRng (IntKind.i64.wrap (0 + 1)) (List.length (rKinds chip op tk)) || (x3 || (x5 || (x7 || (x9 || (x12 || (x14 || (x17 || (x19 || (x22 || (x24 || (x26 || !inRng x25 (List.length (rKinds chip op tk)))))))))))))))))
  (.br (!decide (0 < iN (List.length (rKinds chip op tk))) || (!inRng 0 (List.length (rKinds chip op tk)) || (x1 || (!inRng (IntKind.i64.wrap (0 + 1)) (List.length (rKinds chip op tk)) || (x3 || (x5 || (x7 || (x9 || (x12 || (x14 || (x17 || (x19 || (x22 || (x24 || x26))))))))))))))
   (.br (!decide (0 < iN (List.length (rKinds chip op tk))) || (!inRng 0 (List.length (rKinds chip op tk)) || (x1 || (!inRng (IntKind.i64.wrap (0 + 1)) (List.length (rKinds chip op tk)) || (x3 || (x5 || (x7 || (x9 || (x12 || (x14 || (x17 || (x19 || (x22 || x23)))))))))))))
    (.br (!decide (0 < iN (List.length (rKinds chip op tk))) || (!inRng 0 (List.length (rKinds chip op tk)) || (x1 || (!inRng (IntKind.i64.wrap (0 + 1)) (List.length (rKinds chip op tk)) || (x3 || (x5 || (x7 || (x9 || (x12 || (x14 || (x17 || x18)))))))))))
     (.br (!decide (0 < iN (List.length (rKinds chip op tk))) || (!inRng 0 (List.length (rKinds chip op tk)) || (x1 || (!inRng (IntKind.i64.wrap (0 + 1)) (List.length (rKinds chip op tk)) || (x3 || (x5 || (x7 || (x9 || (x12 || x13)))))))))
      (.br (!decide (0 < iN (List.length (rKinds chip op tk))) || (!inRng 0 (List.length (rKinds chip op tk)) || (x1 || (!inRng (IntKind.i64.wrap (0 + 1)) (List.length (rKinds chip op tk)) || (x3 || (x5 || (x7 || x8)))))))
       (.br (!decide (0 < iN (List.length (rKinds chip op tk))) || (!inRng 0 (List.length (rKinds chip op tk)) || (x1 || (!inRng (IntKind.i64.wrap (0 + 1)) (List.length (rKinds chip op tk)) || (x3 || x4)))))
        (.br (!decide (0 < iN (List.length (rKinds chip op tk))) || (!inRng 0 (List.length (rKinds chip op tk)) || (x1 || inRng (IntKind.i64.wrap (0 + 1)) (List.length (rKinds chip op tk)))))
         (.br (!decide (0 < iN (List.length (rKinds chip op tk))) || inRng 0 (List.length (rKinds chip op tk)))
          (.br (decide (0 < iN (List.length (rKinds chip op tk))))
           (.br (decide (IntKind.i64.wrap (0 + 1) < iN (List.length (rKinds chip op tk))))
            (.br (x2)
             (.br (x6)
              (.br (x11)
               (.br (x16)
                (.br (x21)
                 (.leaf (some (IntKind.i64.wrap (x32 + (R.get (RY) (rKinds chip op tk) x20).2.2.2))))
                 (.leaf (some (x32))))
                (.leaf (some (x31))))
               (.leaf (some (x30))))
              (.leaf (some (x29))))
             (.leaf (some (x28))))
            (.leaf (some (x27))))
           (.leaf (some (0))))
          (.leaf none))
         (.leaf none))
        (.leaf none))
       (.leaf none))
      (.leaf none))
     (.leaf none))
    (.leaf none))
   (.leaf none))
  (.leaf none)

noncomputable def cTotal (chip : Int) (op : Int) (tk : Bool) : Int := getO cTotalRs.dflt (cTotalT chip op tk).val

noncomputable def cTotalC (chip : Int) (op : Int) (tk : Bool) : Bool := okB (cTotalT chip op tk).val

noncomputable def cTotalE : Entry := pureE cTotalTs cTotalRs (fun a => some (cTotalC a.1 a.2.1 a.2.2)) (fun a => cTotal a.1 a.2.1 a.2.2)

theorem cTotal_ok : EntryOk Try.prog 16 cTotalE :=
  pure_part (P := Try.prog) (n := 1023) (k := 8) (l := [(13, cKinds1E)]) (ol := []) ⟨cKinds1_ok, trivial⟩ Try.func16 rfl (by kernel_rfl) Try.call16 trivial (ts := cTotalTs) (rs := cTotalRs) (t := fun a => cTotalT a.1 a.2.1 a.2.2) (fun a => by kernel_rfl)
end
end Go.Proofs.Ytiflfdlglncjlaa
