/-
  Contracts of functions; each found by the symbolic executor and checked by the kernel. Conditions: none.
-/
import Derived.Test.YteboknglfjadoaaGreatS3D
import Derived.Test.YteboknglfjadoaaGreatProg
import Derived.Test.YteboknglfjadoaaGreatCoreEnt
import Derived.Test.YteboknglfjadoaaGreatMakeOk5
import Derived.Test.YteboknglfjadoaaGreatS3Box1
set_option linter.unusedSimpArgs false
open Go Go.S3 Go.Proofs
set_option linter.unusedVariables false
set_option maxRecDepth 100000
namespace Go.Proofs.YteboknglfjadoaaGreat
noncomputable section
abbrev rMemoryTs : List Sh := [Sh.agg (R.pair (R.int IntKind.i64) (R.pair (R.int IntKind.i64) (R.pair (R.int IntKind.i64) (R.pair (R.int IntKind.i64) (R.pair (R.int IntKind.i64) (R.pair (R.int IntKind.i64) (R.pair (R.int IntKind.i64) (R.int IntKind.i64))))))))]


abbrev rMemoryRs : Rs := Rs.one (Sh.one R.bool)


noncomputable def rMemoryT (i : Int × Int × Int × Int × Int × Int × Int × Int) : RT (Bool) :=
  .br (i.1 == 2)
  (.leaf (i.2.2.1 == 6 || i.2.2.2.1 == 6))
  (.br (bif i.1 == 3 then i.1 == 3 else bif i.1 == 14 then i.1 == 14 else i.1 == 15)
   (.leaf (i.2.2.1 == 6))
   (.br (i.1 == 12)
    (.leaf (i.2.2.2.1 == 6))
    (.leaf (false))))


noncomputable def rMemory (i : Int × Int × Int × Int × Int × Int × Int × Int) : Bool := (rMemoryT i).val


noncomputable def rMemoryE : Entry := pureE rMemoryTs rMemoryRs (fun _ => none) (fun a => rMemory a)


theorem rMemory_ok : EntryOk Tryz.prog 187 rMemoryE :=
  pure_tot (P := Tryz.prog) (n := 4227111) (k := 8) (l := []) (ol := []) trivial Tryz.func187 rfl (by kernel_rfl) Tryz.call187 trivial (ts := rMemoryTs) (rs := rMemoryRs) (t := fun a => rMemoryT a) (fun a => by kernel_rfl)


abbrev rEitherTs : List Sh := [Sh.one R.bool, Sh.one (R.int IntKind.i64), Sh.one (R.int IntKind.i64)]


abbrev rEitherRs : Rs := Rs.one (Sh.one (R.int IntKind.i64))


noncomputable def rEitherT (b : Bool) (x : Int) (y : Int) : RT (Int) :=
  .br (b)
  (.leaf (x))
  (.leaf (y))


noncomputable def rEither (b : Bool) (x : Int) (y : Int) : Int := (rEitherT b x y).val


noncomputable def rEitherE : Entry := pureE rEitherTs rEitherRs (fun _ => none) (fun a => rEither a.1 a.2.1 a.2.2)


theorem rEither_ok : EntryOk Tryz.prog 149 rEitherE :=
  pure_tot (P := Tryz.prog) (n := 127) (k := 8) (l := []) (ol := []) trivial Tryz.func149 rfl (by kernel_rfl) Tryz.call149 trivial (ts := rEitherTs) (rs := rEitherRs) (t := fun a => rEitherT a.1 a.2.1 a.2.2) (fun a => by kernel_rfl)


abbrev rCommonTs : List Sh := [Sh.agg (R.pair (R.int IntKind.i64) (R.pair (R.int IntKind.i64) (R.pair (R.int IntKind.i64) (R.pair (R.int IntKind.i64) (R.pair (R.int IntKind.i64) (R.pair (R.int IntKind.i64) (R.pair (R.int IntKind.i64) (R.int IntKind.i64))))))))]


abbrev rCommonRs : Rs := Rs.one (Sh.one (R.int IntKind.i64))


noncomputable def rCommonT (i : Int × Int × Int × Int × Int × Int × Int × Int) : RT (Int) :=
  .br (bif i.1 == 2 then i.1 == 2 else i.1 == 12)
  (.br (rMemory i)
   (.leaf (7))
   (.leaf (0)))
  (.br (bif i.1 == 9 then i.1 == 9 else bif i.1 == 10 then i.1 == 10 else i.1 == 13)
   (.leaf (7))
   (.br (i.1 == 3)
    (.br (rMemory i)
     (.leaf (10))
     (.leaf (7)))
    (.br (bif i.1 == 14 then i.1 == 14 else i.1 == 15)
     (.br (rMemory i)
      (.leaf (10))
      (.leaf (0)))
     (.br (bif i.1 == 4 then i.1 == 4 else bif i.1 == 18 then i.1 == 18 else bif i.1 == 31 then i.1 == 31 else bif i.1 == 33 then i.1 == 33 else i.1 == 34)
      (.leaf (10))
      (.br (bif i.1 == 5 then i.1 == 5 else i.1 == 6)
       (.leaf (13))
       (.br (bif i.1 == 7 then i.1 == 7 else i.1 == 8)
        (.leaf (16))
        (.br (bif i.1 == 1 then i.1 == 1 else bif i.1 == 11 then i.1 == 11 else bif i.1 == 23 then i.1 == 23 else bif i.1 == 19 then i.1 == 19 else bif i.1 == 20 then i.1 == 20 else bif i.1 == 21 then i.1 == 21 else bif i.1 == 22 then i.1 == 22 else bif i.1 == 35 then i.1 == 35 else i.1 == 36)
         (.leaf (4))
         (.br (i.1 == 26)
          (.br (i.2.2.2.2.2.2.1 == 11)
           (.leaf (10))
           (.leaf (0)))
          (.leaf (0))))))))))


noncomputable def rCommon (i : Int × Int × Int × Int × Int × Int × Int × Int) : Int := (rCommonT i).val


noncomputable def rCommonE : Entry := pureE rCommonTs rCommonRs (fun _ => none) (fun a => rCommon a)


theorem rCommon_ok : EntryOk Tryz.prog 148 rCommonE :=
  pure_tot (P := Tryz.prog) (n := 35223572333607) (k := 8) (l := [(187, rMemoryE)]) (ol := []) ⟨rMemory_ok, trivial⟩ Tryz.func148 rfl (by kernel_rfl) Tryz.call148 trivial (ts := rCommonTs) (rs := rCommonRs) (t := fun a => rCommonT a) (fun a => by kernel_rfl)


abbrev rTotal80Ts : List Sh := [Sh.agg (R.pair (R.int IntKind.i64) (R.pair (R.int IntKind.i64) (R.pair (R.int IntKind.i64) (R.pair (R.int IntKind.i64) (R.pair (R.int IntKind.i64) (R.pair (R.int IntKind.i64) (R.pair (R.int IntKind.i64) (R.int IntKind.i64)))))))), Sh.one R.bool]


abbrev rTotal80Rs : Rs := Rs.one (Sh.one (R.int IntKind.i64))


noncomputable def rTotal80T (i : Int × Int × Int × Int × Int × Int × Int × Int) (tk : Bool) : RT (Int) :=
  .br (decide (rCommon i > 0))
  (.leaf (rCommon i))
  (.br (i.1 == 24)
   (.leaf (10))
   (.br (i.1 == 25)
    (.leaf (rEither (tk || i.2.2.2.2.2.2.1 == 11) 17 11))
    (.br (i.1 == 26)
     (.leaf (rEither (tk || i.2.2.2.2.2.2.1 == 11) 11 5))
     (.br (bif i.1 == 27 then i.1 == 27 else i.1 == 30)
      (.leaf (11))
      (.br (i.1 == 32)
       (.leaf (18))
       (.br (i.1 == 37)
        (.leaf (7))
        (.br (i.1 == 12)
         (.leaf (4))
         (.leaf (5)))))))))


noncomputable def rTotal80 (i : Int × Int × Int × Int × Int × Int × Int × Int) (tk : Bool) : Int := (rTotal80T i tk).val


noncomputable def rTotal80E : Entry := pureE rTotal80Ts rTotal80Rs (fun _ => none) (fun a => rTotal80 a.1 a.2)


theorem rTotal80_ok : EntryOk Tryz.prog 80 rTotal80E :=
  pure_tot (P := Tryz.prog) (n := 90767360063) (k := 8) (l := [(148, rCommonE), (149, rEitherE)]) (ol := []) ⟨rCommon_ok, rEither_ok, trivial⟩ Tryz.func80 rfl (by kernel_rfl) Tryz.call80 trivial (ts := rTotal80Ts) (rs := rTotal80Rs) (t := fun a => rTotal80T a.1 a.2) (fun a => by kernel_rfl)


abbrev rTotal85Ts : List Sh := [Sh.agg (R.pair (R.int IntKind.i64) (R.pair (R.int IntKind.i64) (R.pair (R.int IntKind.i64) (R.pair (R.int IntKind.i64) (R.pair (R.int IntKind.i64) (R.pair (R.int IntKind.i64) (R.pair (R.int IntKind.i64) (R.int IntKind.i64)))))))), Sh.one R.bool]


abbrev rTotal85Rs : Rs := Rs.one (Sh.one (R.int IntKind.i64))


noncomputable def rTotal85T (i : Int × Int × Int × Int × Int × Int × Int × Int) (tk : Bool) : RT (Int) :=
  .br (decide (rCommon i > 0))
  (.leaf (rCommon i))
  (.br (i.1 == 24)
   (.leaf (rEither (tk || i.2.2.2.2.2.2.1 == 11) 10 7))
   (.br (i.1 == 25)
    (.leaf (rEither (tk || i.2.2.2.2.2.2.1 == 11) 18 9))
    (.br (bif i.1 == 26 then i.1 == 26 else i.1 == 45)
     (.leaf (rEither (tk || i.2.2.2.2.2.2.1 == 11) 12 6))
     (.br (bif i.1 == 27 then i.1 == 27 else i.1 == 30)
      (.leaf (12))
      (.br (i.1 == 32)
       (.leaf (16))
       (.br (i.1 == 37)
        (.leaf (5))
        (.br (bif i.1 == 16 then i.1 == 16 else bif i.1 == 17 then i.1 == 17 else bif i.1 == 28 then i.1 == 28 else i.1 == 29)
         (.leaf (6))
         (.br (bif i.1 == 40 then i.1 == 40 else bif i.1 == 42 then i.1 == 42 else bif i.1 == 43 then i.1 == 43 else bif i.1 == 44 then i.1 == 44 else bif i.1 == 46 then i.1 == 46 else i.1 == 47)
          (.leaf (10))
          (.br (i.1 == 41)
           (.leaf (7))
           (.leaf (4)))))))))))


noncomputable def rTotal85 (i : Int × Int × Int × Int × Int × Int × Int × Int) (tk : Bool) : Int := (rTotal85T i tk).val


noncomputable def rTotal85E : Entry := pureE rTotal85Ts rTotal85Rs (fun _ => none) (fun a => rTotal85 a.1 a.2)


theorem rTotal85_ok : EntryOk Tryz.prog 81 rTotal85E :=
  pure_tot (P := Tryz.prog) (n := 2270117992333375) (k := 8) (l := [(148, rCommonE), (149, rEitherE)]) (ol := []) ⟨rCommon_ok, rEither_ok, trivial⟩ Tryz.func81 rfl (by kernel_rfl) Tryz.call81 trivial (ts := rTotal85Ts) (rs := rTotal85Rs) (t := fun a => rTotal85T a.1 a.2) (fun a => by kernel_rfl)


noncomputable def Mtstateref1_OneE : Entry := .tree (evFunc (envX Tryz.prog [] [] 7 8) Tryz.f82)


theorem Mtstateref1_One_ok : EntryOk Tryz.prog 82 Mtstateref1_OneE := inl_ok (P := Tryz.prog) (n := 7) (k := 8) (l := []) (ol := []) trivial Tryz.func82 rfl (by kernel_rfl) Tryz.call82 trivial


abbrev rTotalTs : List Sh := [Sh.one (R.int IntKind.i64), Sh.one (R.int IntKind.u8), Sh.one R.bool]


abbrev rTotalRs : Rs := Rs.one (Sh.one (R.int IntKind.i64))


noncomputable def rTotalT (chip : Int) (op : Int) (tk : Bool) : RT (Int) :=
  .leaf (bif rOn chip then rTotal85 (rDecode chip op) tk else rTotal80 (rDecode chip op) tk)


noncomputable def rTotal (chip : Int) (op : Int) (tk : Bool) : Int := (rTotalT chip op tk).val


noncomputable def rTotalE : Entry := pureE rTotalTs rTotalRs (fun _ => none) (fun a => rTotal a.1 a.2.1 a.2.2)


theorem rTotal_ok : EntryOk Tryz.prog 27 rTotalE :=
  pure_tot (P := Tryz.prog) (n := 511) (k := 8) (l := [(25, rDecode1E), (68, rOnE), (80, rTotal80E), (81, rTotal85E), (82, Mtstateref1_OneE)]) (ol := []) ⟨rDecode1_ok, rOn_ok, rTotal80_ok, rTotal85_ok, Mtstateref1_One_ok, trivial⟩ Tryz.func27 rfl (by kernel_rfl) Tryz.call27 trivial (ts := rTotalTs) (rs := rTotalRs) (t := fun a => rTotalT a.1 a.2.1 a.2.2) (fun a => by kernel_rfl)


abbrev kKnTs : List Sh := []


abbrev kKnRs : Rs := Rs.one (Sh.one R.bool)


noncomputable def kKnT : RT (Option (Bool)) :=
  let x1 : Bool × Bool × Bool × Bool × Bool × Bool × Bool × Bool × Bool := (true, false, false, false, false, false, false, false, false)
  let x2 : TC × Int × List Int × TY × Int × Bool := (clkX (newX 1) x1 0).1
  let x3 : Bool := roomB x2
  let x4 : Bool := !x3
  let x5 : TC × Int × List Int × TY × Int × Bool := (clkX x2 x1 0).1
  let x6 : Bool := roomB x5
  let x7 : Bool := !x6
  let x8 : TC × Int × List Int × TY × Int × Bool := (clkX x5 x1 0).1
  let x9 : Bool := roomB x8
  .br (!roomB (newX 1) || (x4 || (x7 || (!x9 || roomB (clkX x8 x1 0).1))))
  (.br (!roomB (newX 1) || (x4 || (x7 || x9)))
   (.br (!roomB (newX 1) || (x4 || x6))
    (.br (!roomB (newX 1) || x3)
     (.br (roomB (newX 1))
      (.leaf (some (true)))
      (.leaf none))
     (.leaf none))
    (.leaf none))
   (.leaf none))
  (.leaf none)


noncomputable def kKn : Bool := getO kKnRs.dflt (kKnT ).val


noncomputable def kKnC : Bool := okB (kKnT ).val


noncomputable def kKnE : Entry := pureE kKnTs kKnRs (fun a => some (kKnC )) (fun a => kKn )


theorem kKn_ok : EntryOk Tryz.prog 15 kKnE :=
  pure_part (P := Tryz.prog) (n := 63) (k := 8) (l := [(23, pClock1E), (28, pNew1E)]) (ol := []) ⟨pClock1_ok, pNew1_ok, trivial⟩ Tryz.func15 rfl (by kernel_rfl) Tryz.call15 trivial (ts := kKnTs) (rs := kKnRs) (t := fun a => kKnT ) (fun a => by kernel_rfl)


noncomputable def Mtstatemake_FromE : Entry := .tree (evFunc (envX Tryz.prog [] [] 7 8) Tryz.f16)


theorem Mtstatemake_From_ok : EntryOk Tryz.prog 16 Mtstatemake_FromE := inl_ok (P := Tryz.prog) (n := 7) (k := 8) (l := []) (ol := []) trivial Tryz.func16 rfl (by kernel_rfl) Tryz.call16 trivial


abbrev lCountsTs : List Sh := [Sh.one (R.sl (R.int IntKind.i64)), Sh.one (R.int IntKind.u8)]

abbrev lCountsRs : Rs := Rs.one (Sh.one R.bool)

def lCountsL0c : LS := { n := 133, slots := [(1, .code (Sh.one (R.int IntKind.u8))), (6, .fix (A.loc 1 0)), (7, .code (Sh.one (R.sl (R.int IntKind.u8)))), (8, .tip 0), (9, .fix (A.loc 2 0)), (10, .code (Sh.one (R.int IntKind.i64)))], boxes := [[.code (.sl (R.int IntKind.i64)), .code (.int IntKind.i64)], [.many (R.pair (R.pair (R.int IntKind.i64) (R.pair (R.pair (R.int IntKind.u8) (R.pair (R.int IntKind.u8) (R.pair (R.int IntKind.u8) (R.pair (R.int IntKind.u8) (R.pair (R.int IntKind.u8) (R.pair (R.int IntKind.u8) (R.pair (R.int IntKind.u8) (R.pair (R.pair R.bool (R.pair R.bool (R.pair R.bool (R.pair R.bool (R.pair R.bool (R.pair R.bool R.bool)))))) (R.pair (R.int IntKind.u16) (R.int IntKind.u16)))))))))) (R.pair R.bool (R.pair R.bool (R.pair R.bool (R.pair (R.int IntKind.u8) (R.pair R.bool (R.pair R.bool (R.pair R.bool (R.pair R.bool (R.pair R.bool (R.pair R.bool R.bool)))))))))))) (R.pair (R.int IntKind.i64) (R.pair (R.sl (R.int IntKind.u8)) (R.pair (RY) (R.pair (R.int IntKind.i64) R.bool)))))], [.many (R.pair (R.pair (R.int IntKind.i64) (R.pair (R.pair (R.int IntKind.u8) (R.pair (R.int IntKind.u8) (R.pair (R.int IntKind.u8) (R.pair (R.int IntKind.u8) (R.pair (R.int IntKind.u8) (R.pair (R.int IntKind.u8) (R.pair (R.int IntKind.u8) (R.pair (R.pair R.bool (R.pair R.bool (R.pair R.bool (R.pair R.bool (R.pair R.bool (R.pair R.bool R.bool)))))) (R.pair (R.int IntKind.u16) (R.int IntKind.u16)))))))))) (R.pair R.bool (R.pair R.bool (R.pair R.bool (R.pair (R.int IntKind.u8) (R.pair R.bool (R.pair R.bool (R.pair R.bool (R.pair R.bool (R.pair R.bool (R.pair R.bool R.bool)))))))))))) (R.pair (R.int IntKind.i64) (R.pair (R.sl (R.int IntKind.u8)) (R.pair (RY) (R.pair (R.int IntKind.i64) R.bool)))))]], stgs := [⟨(R.int IntKind.u8), 5, true⟩] }


noncomputable def lCountsL0T (a : Int × List Int × Int × List Int × Int × (TC × Int × List Int × TY × Int × Bool) × (TC × Int × List Int × TY × Int × Bool) × List Int × PUnit) : RT (Option (Go1 (Int × List Int × Int × List Int × Int × (TC × Int × List Int × TY × Int × Bool) × (TC × Int × List Int × TY × Int × Bool) × List Int × PUnit))) :=
  let x1 : Int := if 4 < iN (List.length a.2.2.2.2.2.2.1.2.2.1) then 4 else iN (List.length a.2.2.2.2.2.2.1.2.2.1)
  let x2 : Bool := inRng x1 (List.length a.2.1)
  let x3 : Bool := !x2
  let x4 : Bool := a.2.2.2.2.2.2.1.2.2.2.2.1 == 3
  let x5 : Bool := !x4
  let x6 : Int := R.get (R.int IntKind.u8) a.2.1 x1
  let x7 : List Int := a.2.2.2.2.2.2.2.1 ++ [bif rReads a.2.2.2.2.2.2.1.2.2.2.1.1 then x6 else a.2.2.2.2.2.2.1.2.2.2.1.2.2.1]
  let x8 : Bool := x5 || Nat.ble (List.length x7) most
  let x9 : Bool := !x8
  let x10 : TC × Int × List Int × TY × Int × Bool := (clkX a.2.2.2.2.2.2.1 (true, false, false, false, false, false, false, false, false) x6).1
  .br (decide (a.2.2.1 < 20) && (a.2.2.1 == 0 || (decide (iN (List.length a.2.2.2.2.2.2.1.2.2.1) > 0) || a.2.2.2.2.2.2.1.2.2.2.2.1 != 1 && a.2.2.2.2.2.2.1.2.2.2.2.1 != 9)))
  (.br (x3 || (x9 || (x5 || roomB a.2.2.2.2.2.2.1)))
   (.br (x3 || (x9 || (x4 || roomB a.2.2.2.2.2.2.1)))
    (.br (x3 || x8)
     (.br (x2)
      (.br (x4)
       (.leaf (some (Go1.cont (a.1, a.2.1, IntKind.i64.wrap (a.2.2.1 + 1), a.2.2.2.1, a.2.2.2.2.1, a.2.2.2.2.2.1, x10, x7, PUnit.unit))))
       (.leaf (some (Go1.cont (a.1, a.2.1, IntKind.i64.wrap (a.2.2.1 + 1), a.2.2.2.1, a.2.2.2.2.1, a.2.2.2.2.2.1, x10, a.2.2.2.2.2.2.2.1, PUnit.unit)))))
      (.leaf none))
     (.leaf none))
    (.leaf none))
   (.leaf none))
  (.leaf (some (Go1.brk (a.1, a.2.1, a.2.2.1, a.2.2.2.1, a.2.2.2.2.1, a.2.2.2.2.2.1, a.2.2.2.2.2.2.1, a.2.2.2.2.2.2.2.1, PUnit.unit))))

noncomputable def lCountsL0O : Ora := loopE true lCountsL0c lCountsL0T (fun a => 25)

theorem lCountsL0_ok : OraOk (envX Tryz.prog [(15, kKnE), (16, Mtstatemake_FromE), (17, rNew1E), (18, nChipE), (19, nRegsE), (20, rNextE), (21, nByteE), (22, rReadsE), (23, pClock1E), (24, rHoldsE), (25, rDecode1E), (26, rFinE), (27, rTotalE)] [] 16383 8) (.block 0 (.loop (bodyIn Tryz.f3.body 0))) lCountsL0O :=
  loop_part (envX_ok (l := [(15, kKnE), (16, Mtstatemake_FromE), (17, rNew1E), (18, nChipE), (19, nRegsE), (20, rNextE), (21, nByteE), (22, rReadsE), (23, pClock1E), (24, rHoldsE), (25, rDecode1E), (26, rFinE), (27, rTotalE)]) ⟨kKn_ok, Mtstatemake_From_ok, rNew1_ok, nChip_ok, nRegs_ok, rNext_ok, nByte_ok, rReads_ok, pClock1_ok, rHolds_ok, rDecode1_ok, rFin_ok, rTotal_ok, trivial⟩ [] 16383 8) (loopsOk_bare (by kernel_rfl)) (fun a => by kernel_rfl)

noncomputable def lCountsT (n : List Int) (op : Int) : RT (Option (Bool)) :=
  let x1 : TR × List Int × Int := nRegs (nChip (n, 0)).2 (newX (nChip (n, 0)).1).1.1
  let x2 : List Int × Int := x1.2
  let x3 : Bool := nByteC x2
  let x4 : Bool := !x3
  let x5 : Int × List Int × Int := nByte x2
  let x6 : List Int × Int := x5.2
  let x7 : Bool := nByteC x6
  let x8 : Bool := !x7
  let x9 : Int × List Int × Int := nByte x6
  let x10 : List Int × Int := x9.2
  let x11 : Bool := nByteC x10
  let x12 : Int × List Int × Int := nByte x10
  let x13 : List Int × Int := x12.2
  let x14 : Int × List Int × Int := nByte x13
  let x15 : List Int × Int := x14.2
  let x16 : TC := ((newX (nChip (n, 0)).1).1.1, x1.1, (newX (nChip (n, 0)).1).1.2.2)
  let x17 : TC × Int × List Int × TY × Int × Bool := (x16, (newX (nChip (n, 0)).1).2.1, (newX (nChip (n, 0)).1).2.2.1, (nextX x16 0 []).1, (newX (nChip (n, 0)).1).2.2.2.2)
  let x18 : Int × List Int × Int × List Int × Int × (TC × Int × List Int × TY × Int × Bool) × (TC × Int × List Int × TY × Int × Bool) × List Int × PUnit := (op, [op, x5.1, x9.1, x12.1, x14.1], 0, x15.1, x15.2, x17, x17, [], ())
  let x19 : Option (Bool × Int × List Int × Int × List Int × Int × (TC × Int × List Int × TY × Int × Bool) × (TC × Int × List Int × TY × Int × Bool) × List Int × PUnit) := runF true lCountsL0T (fun a => 25) x18
  let x20 : Bool × Int × List Int × Int × List Int × Int × (TC × Int × List Int × TY × Int × Bool) × (TC × Int × List Int × TY × Int × Bool) × List Int × PUnit := getO (false, x18) x19
  let x21 : Int × List Int × Int × List Int × Int × (TC × Int × List Int × TY × Int × Bool) × (TC × Int × List Int × TY × Int × Bool) × List Int × PUnit := x20.2
  let x22 : Int × List Int × Int × (TC × Int × List Int × TY × Int × Bool) × (TC × Int × List Int × TY × Int × Bool) × List Int × PUnit := x21.2.2
  let x23 : (TC × Int × List Int × TY × Int × Bool) × (TC × Int × List Int × TY × Int × Bool) × List Int × PUnit := x22.2.2.2
  let x24 : (TC × Int × List Int × TY × Int × Bool) × List Int × PUnit := x23.2
  let x25 : TC := x24.1.1
  let x26 : TC := x23.1.1
  let x27 : TC := finX x26 0 x24.2.1 (true, false, false, false, false, false, false, false, false)
  let x28 : TR × Bool × Bool × Bool × Int × Bool × Bool × Bool × Bool × Bool × Bool × Bool := x25.2
  let x29 : TR := x28.1
  let x30 : TR × Bool × Bool × Bool × Int × Bool × Bool × Bool × Bool × Bool × Bool × Bool := x27.2
  let x31 : TR := x30.1
  let x32 : Int × Int × Int × Int × Int × Int × TF × Int × Int := x29.2
  let x33 : Int × Int × Int × Int × Int × Int × TF × Int × Int := x31.2
  let x34 : Int × Int × Int × Int × Int × TF × Int × Int := x32.2
  let x35 : Int × Int × Int × Int × Int × TF × Int × Int := x33.2
  let x36 : Int × Int × Int × Int × TF × Int × Int := x34.2
  let x37 : Int × Int × Int × Int × TF × Int × Int := x35.2
  let x38 : Int × Int × Int × TF × Int × Int := x36.2
  let x39 : Int × Int × Int × TF × Int × Int := x37.2
  let x40 : Int × Int × TF × Int × Int := x38.2
  let x41 : Int × Int × TF × Int × Int := x39.2
  let x42 : Int × TF × Int × Int := x40.2
  let x43 : Int × TF × Int × Int := x41.2
  let x44 : TF × Int × Int := x42.2
  let x45 : TF := x44.1
  let x46 : TF × Int × Int := x43.2
  let x47 : TF := x46.1
  let x48 : Bool × Bool × Bool × Bool × Bool × Bool := x45.2
  let x49 : Bool × Bool × Bool × Bool × Bool × Bool := x47.2
  let x50 : Bool × Bool × Bool × Bool × Bool := x48.2
  let x51 : Bool × Bool × Bool × Bool × Bool := x49.2
  let x52 : Bool × Bool × Bool × Bool := x50.2
  let x53 : Bool × Bool × Bool × Bool := x51.2
  let x54 : Bool × Bool × Bool := x52.2
  let x55 : Bool × Bool × Bool := x53.2
  let x56 : Bool × Bool := x54.2
  let x57 : Bool × Bool := x55.2
  let x58 : Int × Int := x44.2
  let x59 : Int × Int := x46.2
  let x60 : Bool × Bool × Bool × Int × Bool × Bool × Bool × Bool × Bool × Bool × Bool := x28.2
  let x61 : Bool × Bool × Bool × Int × Bool × Bool × Bool × Bool × Bool × Bool × Bool := x30.2
  let x62 : Bool × Bool × Int × Bool × Bool × Bool × Bool × Bool × Bool × Bool := x60.2
  let x63 : Bool × Bool × Int × Bool × Bool × Bool × Bool × Bool × Bool × Bool := x61.2
  let x64 : Bool × Int × Bool × Bool × Bool × Bool × Bool × Bool × Bool := x62.2
  let x65 : Bool × Int × Bool × Bool × Bool × Bool × Bool × Bool × Bool := x63.2
  let x66 : Int × Bool × Bool × Bool × Bool × Bool × Bool × Bool := x64.2
  let x67 : Int × Bool × Bool × Bool × Bool × Bool × Bool × Bool := x65.2
  let x68 : TF := x66.2
  let x69 : TF := x67.2
  let x70 : Bool × Bool × Bool × Bool × Bool × Bool := x68.2
  let x71 : Bool × Bool × Bool × Bool × Bool × Bool := x69.2
  let x72 : Bool × Bool × Bool × Bool × Bool := x70.2
  let x73 : Bool × Bool × Bool × Bool × Bool := x71.2
  let x74 : Bool × Bool × Bool × Bool := x72.2
  let x75 : Bool × Bool × Bool × Bool := x73.2
  let x76 : Bool × Bool × Bool := x74.2
  let x77 : Bool × Bool × Bool := x75.2
  let x78 : Bool × Bool := x76.2
  let x79 : Bool × Bool := x77.2
  let x80 : Bool := x25.1 == x27.1 && (x29.1 == x31.1 && (x32.1 == x33.1 && (x34.1 == x35.1 && (x36.1 == x37.1 && (x38.1 == x39.1 && (x40.1 == x41.1 && (x42.1 == x43.1 && (x45.1 == x47.1 && (x48.1 == x49.1 && (x50.1 == x51.1 && (x52.1 == x53.1 && (x54.1 == x55.1 && (x56.1 == x57.1 && (x56.2 == x57.2 && (x58.1 == x59.1 && (x58.2 == x59.2 && (x60.1 == x61.1 && (x62.1 == x63.1 && (x64.1 == x65.1 && (x66.1 == x67.1 && (x68.1 == x69.1 && (x70.1 == x71.1 && (x72.1 == x73.1 && (x74.1 == x75.1 && (x76.1 == x77.1 && (x78.1 == x79.1 && (x78.2 == x79.2 && true)))))))))))))))))))))))))))
  let x81 : Int := x26.1
  let x82 : Int := x21.1
  let x83 : Bool := x22.1 == rTotal x81 x82 (rHolds (rDecode x81 x82).2.2.2.2.2.2.1 x26.2.1.2.2.2.2.2.2.2.1)
  .br (!decide (iN (List.length n) > 60) || kKnC)
  (.br (decide (iN (List.length n) > 60))
   (.leaf (some (true)))
   (.br (nChipC (n, 0))
    (.br (nRegsC (nChip (n, 0)).2 (newX (nChip (n, 0)).1).1.1)
     (.br (x4 || (x8 || (!x11 || nByteC x13)))
      (.br (x4 || (x8 || x11))
       (.br (x4 || x7)
        (.br (x3)
         (.br (okB x19)
          (.br x20.1
           (.leaf none)
           (.br (!x80 || (!x83 || kKnC))
            (.leaf (some (x80 && (x83 && kKn))))
            (.leaf none)))
          (.leaf none))
         (.leaf none))
        (.leaf none))
       (.leaf none))
      (.leaf none))
     (.leaf none))
    (.leaf none)))
  (.leaf none)

noncomputable def lCounts (n : List Int) (op : Int) : Bool := getO lCountsRs.dflt (lCountsT n op).val

noncomputable def lCountsC (n : List Int) (op : Int) : Bool := okB (lCountsT n op).val

noncomputable def lCountsE : Entry := pureE lCountsTs lCountsRs (fun a => some (lCountsC a.1 a.2)) (fun a => lCounts a.1 a.2)

theorem lCounts_ok : EntryOk Tryz.prog 3 lCountsE :=
  pure_part (P := Tryz.prog) (n := 16383) (k := 8) (l := [(15, kKnE), (16, Mtstatemake_FromE), (17, rNew1E), (18, nChipE), (19, nRegsE), (20, rNextE), (21, nByteE), (22, rReadsE), (23, pClock1E), (24, rHoldsE), (25, rDecode1E), (26, rFinE), (27, rTotalE)]) (ol := [(0, lCountsL0O)]) ⟨kKn_ok, Mtstatemake_From_ok, rNew1_ok, nChip_ok, nRegs_ok, rNext_ok, nByte_ok, rReads_ok, pClock1_ok, rHolds_ok, rDecode1_ok, rFin_ok, rTotal_ok, trivial⟩ Tryz.func3 rfl (by kernel_rfl) Tryz.call3 ⟨lCountsL0_ok, trivial⟩ (ts := lCountsTs) (rs := lCountsRs) (t := fun a => lCountsT a.1 a.2) (fun a => by kernel_rfl)

end
end Go.Proofs.YteboknglfjadoaaGreat
