/-
  Contracts of functions; each found by the symbolic executor and checked by the kernel. Conditions: none.
-/
import Derived.Test.YteboknglfjadoaaGreatS3D
import Derived.Test.YteboknglfjadoaaGreatProg
set_option linter.unusedSimpArgs false
open Go Go.S3 Go.Proofs
set_option linter.unusedVariables false
set_option maxRecDepth 100000
namespace Go.Proofs.YteboknglfjadoaaGreat
noncomputable section
abbrev pParityTs : List Sh := [Sh.one (R.int IntKind.u8)]

abbrev pParityRs : Rs := Rs.one (Sh.one R.bool)

noncomputable def pParityT (b : Int) : RT (Option (Bool)) :=
  let x1 : Int := andI IntKind.u8 (andI IntKind.u8 b (IntKind.u8.wrap (b - 1))) (IntKind.u8.wrap (andI IntKind.u8 b (IntKind.u8.wrap (b - 1)) - 1))
  let x2 : Bool := !x1 != 0
  let x3 : Int := andI IntKind.u8 x1 (IntKind.u8.wrap (x1 - 1))
  let x4 : Bool := x3 != 0
  let x5 : Int := andI IntKind.u8 x3 (IntKind.u8.wrap (x3 - 1))
  let x6 : Bool := !x5 != 0
  let x7 : Int := andI IntKind.u8 x5 (IntKind.u8.wrap (x5 - 1))
  let x8 : Bool := x7 != 0
  let x9 : Int := andI IntKind.u8 x7 (IntKind.u8.wrap (x7 - 1))
  let x10 : Bool := !x9 != 0
  let x11 : Int := andI IntKind.u8 x9 (IntKind.u8.wrap (x9 - 1))
  let x12 : Bool := x11 != 0
  let x13 : Int := andI IntKind.u8 x11 (IntKind.u8.wrap (x11 - 1))
  let x14 : Bool := !x13 != 0
  .br (!b != 0 || (!andI IntKind.u8 b (IntKind.u8.wrap (b - 1)) != 0 || (x2 || (!x4 || (x6 || (!x8 || (x10 || (!x12 || (x14 || !andI IntKind.u8 x13 (IntKind.u8.wrap (x13 - 1)) != 0)))))))))
  (.leaf (some (!b != 0 || andI IntKind.u8 b (IntKind.u8.wrap (b - 1)) != 0 && (x2 || x4 && (x6 || x8 && (x10 || x12 && x14))))))
  (.leaf none)

noncomputable def pParity (b : Int) : Bool := getO pParityRs.dflt (pParityT b).val

noncomputable def pParityC (b : Int) : Bool := okB (pParityT b).val

noncomputable def pParityE : Entry := pureE pParityTs pParityRs (fun a => some (pParityC a)) (fun a => pParity a)

theorem pParity_ok : EntryOk Tryz.prog 317 pParityE :=
  pure_part (P := Tryz.prog) (n := 15) (k := 10) (l := []) (ol := []) trivial Tryz.func317 rfl (by kernel_rfl) Tryz.call317 trivial (ts := pParityTs) (rs := pParityRs) (t := fun a => pParityT a) (fun a => by kernel_rfl)

abbrev pMajTs : List Sh := [Sh.one R.bool, Sh.one R.bool, Sh.one R.bool]

abbrev pMajRs : Rs := Rs.one (Sh.one R.bool)

noncomputable def pMajT (a : Bool) (b : Bool) (c : Bool) : RT (Bool) :=
  .leaf (bif a then b || bif a then c || b && c else b && c else bif a then c || b && c else b && c)

noncomputable def pMaj (a : Bool) (b : Bool) (c : Bool) : Bool := (pMajT a b c).val

noncomputable def pMajE : Entry := pureE pMajTs pMajRs (fun _ => none) (fun a => pMaj a.1 a.2.1 a.2.2)

theorem pMaj_ok : EntryOk Tryz.prog 301 pMajE :=
  pure_tot (P := Tryz.prog) (n := 127) (k := 8) (l := []) (ol := []) trivial Tryz.func301 rfl (by kernel_rfl) Tryz.call301 trivial (ts := pMajTs) (rs := pMajRs) (t := fun a => pMajT a.1 a.2.1 a.2.2) (fun a => by kernel_rfl)

abbrev pOneTs : List Sh := [Sh.one R.bool]

abbrev pOneRs : Rs := Rs.one (Sh.one (R.int IntKind.i64))

noncomputable def pOneT (b : Bool) : RT (Int) :=
  .br (b)
  (.leaf (1))
  (.leaf (0))

noncomputable def pOne (b : Bool) : Int := (pOneT b).val

noncomputable def pOneE : Entry := pureE pOneTs pOneRs (fun _ => none) (fun a => pOne a)

theorem pOne_ok : EntryOk Tryz.prog 311 pOneE :=
  pure_tot (P := Tryz.prog) (n := 7) (k := 8) (l := []) (ol := []) trivial Tryz.func311 rfl (by kernel_rfl) Tryz.call311 trivial (ts := pOneTs) (rs := pOneRs) (t := fun a => pOneT a) (fun a => by kernel_rfl)

abbrev pSignedTs : List Sh := [Sh.one (R.int IntKind.i64)]

abbrev pSignedRs : Rs := Rs.one (Sh.one R.bool)

noncomputable def pSignedT (n : Int) : RT (Bool) :=
  .leaf (decide (n < -128) || decide (n > 127))

noncomputable def pSigned (n : Int) : Bool := (pSignedT n).val

noncomputable def pSignedE : Entry := pureE pSignedTs pSignedRs (fun _ => none) (fun a => pSigned a)

theorem pSigned_ok : EntryOk Tryz.prog 312 pSignedE :=
  pure_tot (P := Tryz.prog) (n := 7) (k := 8) (l := []) (ol := []) trivial Tryz.func312 rfl (by kernel_rfl) Tryz.call312 trivial (ts := pSignedTs) (rs := pSignedRs) (t := fun a => pSignedT a) (fun a => by kernel_rfl)

abbrev pSumTs : List Sh := [Sh.one (R.int IntKind.u8), Sh.one (R.int IntKind.u8), Sh.one R.bool]

abbrev pSumRs : Rs := Rs.tup [Sh.one (R.int IntKind.u8), Sh.one R.bool, Sh.one R.bool, Sh.one R.bool]

noncomputable def pSumT (a : Int) (b : Int) (c : Bool) : RT (Int × Bool × Bool × Bool) :=
  let x1 : Int := IntKind.i64.wrap (IntKind.i64.wrap (IntKind.i64.wrap a + IntKind.i64.wrap b) + pOne c)
  .leaf ((IntKind.u8.wrap x1, decide (x1 > 255), decide (IntKind.i64.wrap (IntKind.i64.wrap (IntKind.i64.wrap (andI IntKind.u8 a 15) + IntKind.i64.wrap (andI IntKind.u8 b 15)) + pOne c) > 15), pSigned (IntKind.i64.wrap (IntKind.i64.wrap (IntKind.i64.wrap (IntKind.i8.wrap a) + IntKind.i64.wrap (IntKind.i8.wrap b)) + pOne c))))

noncomputable def pSum (a : Int) (b : Int) (c : Bool) : Int × Bool × Bool × Bool := (pSumT a b c).val

noncomputable def pSumE : Entry := pureE pSumTs pSumRs (fun _ => none) (fun a => pSum a.1 a.2.1 a.2.2)

theorem pSum_ok : EntryOk Tryz.prog 290 pSumE :=
  pure_tot (P := Tryz.prog) (n := 4095) (k := 8) (l := [(311, pOneE), (312, pSignedE)]) (ol := []) ⟨pOne_ok, pSigned_ok, trivial⟩ Tryz.func290 rfl (by kernel_rfl) Tryz.call290 trivial (ts := pSumTs) (rs := pSumRs) (t := fun a => pSumT a.1 a.2.1 a.2.2) (fun a => by kernel_rfl)

abbrev pDiffTs : List Sh := [Sh.one (R.int IntKind.u8), Sh.one (R.int IntKind.u8), Sh.one R.bool]

abbrev pDiffRs : Rs := Rs.tup [Sh.one (R.int IntKind.u8), Sh.one R.bool, Sh.one R.bool, Sh.one R.bool]

noncomputable def pDiffT (a : Int) (b : Int) (c : Bool) : RT (Int × Bool × Bool × Bool) :=
  let x1 : Int := IntKind.i64.wrap (IntKind.i64.wrap (IntKind.i64.wrap a - IntKind.i64.wrap b) - pOne c)
  .leaf ((IntKind.u8.wrap x1, decide (x1 < 0), decide (IntKind.i64.wrap (IntKind.i64.wrap (IntKind.i64.wrap (IntKind.i64.wrap (IntKind.i64.wrap (andI IntKind.u8 a 15) + 15) - IntKind.i64.wrap (andI IntKind.u8 b 15)) + 1) - pOne c) > 15), pSigned (IntKind.i64.wrap (IntKind.i64.wrap (IntKind.i64.wrap (IntKind.i8.wrap a) - IntKind.i64.wrap (IntKind.i8.wrap b)) - pOne c))))

noncomputable def pDiff (a : Int) (b : Int) (c : Bool) : Int × Bool × Bool × Bool := (pDiffT a b c).val

noncomputable def pDiffE : Entry := pureE pDiffTs pDiffRs (fun _ => none) (fun a => pDiff a.1 a.2.1 a.2.2)

theorem pDiff_ok : EntryOk Tryz.prog 292 pDiffE :=
  pure_tot (P := Tryz.prog) (n := 4095) (k := 8) (l := [(311, pOneE), (312, pSignedE)]) (ol := []) ⟨pOne_ok, pSigned_ok, trivial⟩ Tryz.func292 rfl (by kernel_rfl) Tryz.call292 trivial (ts := pDiffTs) (rs := pDiffRs) (t := fun a => pDiffT a.1 a.2.1 a.2.2) (fun a => by kernel_rfl)

abbrev pJoinTs : List Sh := [Sh.one (R.int IntKind.u8), Sh.one (R.int IntKind.u8)]

abbrev pJoinRs : Rs := Rs.one (Sh.one (R.int IntKind.u16))

noncomputable def pJoinT (h : Int) (l : Int) : RT (Int) :=
  .leaf (orI IntKind.u16 (shlI IntKind.u16 (IntKind.u16.wrap h) 8) (IntKind.u16.wrap l))

noncomputable def pJoin (h : Int) (l : Int) : Int := (pJoinT h l).val

noncomputable def pJoinE : Entry := pureE pJoinTs pJoinRs (fun _ => none) (fun a => pJoin a.1 a.2)

theorem pJoin_ok : EntryOk Tryz.prog 217 pJoinE :=
  pure_tot (P := Tryz.prog) (n := 31) (k := 8) (l := []) (ol := []) trivial Tryz.func217 rfl (by kernel_rfl) Tryz.call217 trivial (ts := pJoinTs) (rs := pJoinRs) (t := fun a => pJoinT a.1 a.2) (fun a => by kernel_rfl)

abbrev pBitTs : List Sh := [Sh.one R.bool, Sh.one (R.int IntKind.i64)]

abbrev pBitRs : Rs := Rs.one (Sh.one (R.int IntKind.u8))

noncomputable def pBitT (b : Bool) (n : Int) : RT (Option (Int)) :=
  .br (!b || decide (0 ≤ n))
  (.br (b)
   (.leaf (some (shlI IntKind.u8 1 n)))
   (.leaf (some (0))))
  (.leaf none)

noncomputable def pBit (b : Bool) (n : Int) : Int := getO pBitRs.dflt (pBitT b n).val

noncomputable def pBitC (b : Bool) (n : Int) : Bool := okB (pBitT b n).val

noncomputable def pBitE : Entry := pureE pBitTs pBitRs (fun a => some (pBitC a.1 a.2)) (fun a => pBit a.1 a.2)

theorem pBit_ok : EntryOk Tryz.prog 313 pBitE :=
  pure_part (P := Tryz.prog) (n := 31) (k := 8) (l := []) (ol := []) trivial Tryz.func313 rfl (by kernel_rfl) Tryz.call313 trivial (ts := pBitTs) (rs := pBitRs) (t := fun a => pBitT a.1 a.2) (fun a => by kernel_rfl)

abbrev pPackTs : List Sh := [Sh.one (R.int IntKind.i64), Sh.agg (R.pair R.bool (R.pair R.bool (R.pair R.bool (R.pair R.bool (R.pair R.bool (R.pair R.bool R.bool))))))]

abbrev pPackRs : Rs := Rs.one (Sh.one (R.int IntKind.u8))

noncomputable def pPackT (chip : Int) (f : TF) : RT (Option (Int)) :=
  let x1 : Int := orI IntKind.u8 (orI IntKind.u8 (orI IntKind.u8 (orI IntKind.u8 (pBit f.1 7) (pBit f.2.1 6)) (pBit f.2.2.2.1 4)) (pBit f.2.2.2.2.1 2)) (pBit f.2.2.2.2.2.2 0)
  .br (!pBitC f.1 7 || (!pBitC f.2.1 6 || (!pBitC f.2.2.2.1 4 || (!pBitC f.2.2.2.2.1 2 || pBitC f.2.2.2.2.2.2 0))))
  (.br (!pBitC f.1 7 || (!pBitC f.2.1 6 || (!pBitC f.2.2.2.1 4 || pBitC f.2.2.2.2.1 2)))
   (.br (!pBitC f.1 7 || (!pBitC f.2.1 6 || pBitC f.2.2.2.1 4))
    (.br (!pBitC f.1 7 || pBitC f.2.1 6)
     (.br (pBitC f.1 7)
      (.br (!chip == 2 || (!pBitC f.2.2.1 5 || pBitC f.2.2.2.2.2.1 1))
       (.br (!chip == 2 || pBitC f.2.2.1 5)
        (.br (chip == 2)
         (.leaf (some (orI IntKind.u8 (orI IntKind.u8 x1 (pBit f.2.2.1 5)) (pBit f.2.2.2.2.2.1 1))))
         (.leaf (some (orI IntKind.u8 x1 2))))
        (.leaf none))
       (.leaf none))
      (.leaf none))
     (.leaf none))
    (.leaf none))
   (.leaf none))
  (.leaf none)

noncomputable def pPack (chip : Int) (f : TF) : Int := getO pPackRs.dflt (pPackT chip f).val

noncomputable def pPackC (chip : Int) (f : TF) : Bool := okB (pPackT chip f).val

noncomputable def pPackE : Entry := pureE pPackTs pPackRs (fun a => some (pPackC a.1 a.2)) (fun a => pPack a.1 a.2)

theorem pPack_ok : EntryOk Tryz.prog 294 pPackE :=
  pure_part (P := Tryz.prog) (n := 63) (k := 8) (l := [(313, pBitE)]) (ol := []) ⟨pBit_ok, trivial⟩ Tryz.func294 rfl (by kernel_rfl) Tryz.call294 trivial (ts := pPackTs) (rs := pPackRs) (t := fun a => pPackT a.1 a.2) (fun a => by kernel_rfl)

abbrev pUnpackTs : List Sh := [Sh.one (R.int IntKind.i64), Sh.one (R.int IntKind.u8)]

abbrev pUnpackRs : Rs := Rs.one (Sh.agg (R.pair R.bool (R.pair R.bool (R.pair R.bool (R.pair R.bool (R.pair R.bool (R.pair R.bool R.bool)))))))

noncomputable def pUnpackT (chip : Int) (b : Int) : RT TF :=
  .leaf ((andI IntKind.u8 b 128 != 0, andI IntKind.u8 b 64 != 0, chip == 2 && andI IntKind.u8 b 32 != 0, andI IntKind.u8 b 16 != 0, andI IntKind.u8 b 4 != 0, chip == 2 && andI IntKind.u8 b 2 != 0, andI IntKind.u8 b 1 != 0))

noncomputable def pUnpack (chip : Int) (b : Int) : TF := (pUnpackT chip b).val

noncomputable def pUnpackE : Entry := pureE pUnpackTs pUnpackRs (fun _ => none) (fun a => pUnpack a.1 a.2)

theorem pUnpack_ok : EntryOk Tryz.prog 307 pUnpackE :=
  pure_tot (P := Tryz.prog) (n := 63) (k := 8) (l := []) (ol := []) trivial Tryz.func307 rfl (by kernel_rfl) Tryz.call307 trivial (ts := pUnpackTs) (rs := pUnpackRs) (t := fun a => pUnpackT a.1 a.2) (fun a => by kernel_rfl)

abbrev pOfTs : List Sh := [Sh.one (R.int IntKind.u8)]

abbrev pOfRs : Rs := Rs.one (Sh.agg (R.pair R.bool (R.pair R.bool (R.pair R.bool (R.pair R.bool (R.pair R.bool (R.pair R.bool R.bool)))))))

noncomputable def pOfT (r : Int) : RT (Option TF) :=
  .br (pParityC r)
  (.leaf (some ((decide (r ≥ 128), r == 0, false, false, pParity r, false, false))))
  (.leaf none)

noncomputable def pOf (r : Int) : TF := getO pOfRs.dflt (pOfT r).val

noncomputable def pOfC (r : Int) : Bool := okB (pOfT r).val

noncomputable def pOfE : Entry := pureE pOfTs pOfRs (fun a => some (pOfC a)) (fun a => pOf a)

theorem pOf_ok : EntryOk Tryz.prog 300 pOfE :=
  pure_part (P := Tryz.prog) (n := 7) (k := 8) (l := [(317, pParityE)]) (ol := []) ⟨pParity_ok, trivial⟩ Tryz.func300 rfl (by kernel_rfl) Tryz.call300 trivial (ts := pOfTs) (rs := pOfRs) (t := fun a => pOfT a) (fun a => by kernel_rfl)

noncomputable def iregs_atE : Entry := .tree (evFunc (envX Tryz.prog [] [] 141872468127 8) Tryz.f289)

theorem iregs_at_ok : EntryOk Tryz.prog 289 iregs_atE := inl_ok (P := Tryz.prog) (n := 141872468127) (k := 8) (l := []) (ol := []) trivial Tryz.func289 rfl (by kernel_rfl) Tryz.call289 trivial

abbrev pGetTs : List Sh := [Sh.agg (R.pair (R.int IntKind.u8) (R.pair (R.int IntKind.u8) (R.pair (R.int IntKind.u8) (R.pair (R.int IntKind.u8) (R.pair (R.int IntKind.u8) (R.pair (R.int IntKind.u8) (R.pair (R.int IntKind.u8) (R.pair (R.pair R.bool (R.pair R.bool (R.pair R.bool (R.pair R.bool (R.pair R.bool (R.pair R.bool R.bool)))))) (R.pair (R.int IntKind.u16) (R.int IntKind.u16)))))))))), Sh.one (R.int IntKind.i64)]

abbrev pGetRs : Rs := Rs.one (Sh.one (R.int IntKind.u8))

noncomputable def pGetT (r : TR) (n : Int) : RT (Int) :=
  .br (andI IntKind.i64 n 7 == 0)
  (.leaf r.2.1)
  (.br (andI IntKind.i64 n 7 == 1)
   (.leaf r.2.2.1)
   (.br (andI IntKind.i64 n 7 == 2)
    (.leaf r.2.2.2.1)
    (.br (andI IntKind.i64 n 7 == 3)
     (.leaf r.2.2.2.2.1)
     (.br (andI IntKind.i64 n 7 == 4)
      (.leaf r.2.2.2.2.2.1)
      (.br (andI IntKind.i64 n 7 == 5)
       (.leaf r.2.2.2.2.2.2.1)
       (.br (andI IntKind.i64 n 7 == 7)
        (.leaf r.1)
        (.leaf (0))))))))

noncomputable def pGet (r : TR) (n : Int) : Int := (pGetT r n).val

noncomputable def pGetE : Entry := pureE pGetTs pGetRs (fun _ => none) (fun a => pGet a.1 a.2)

theorem pGet_ok : EntryOk Tryz.prog 249 pGetE :=
  pure_tot (P := Tryz.prog) (n := 63) (k := 8) (l := [(289, iregs_atE)]) (ol := []) ⟨iregs_at_ok, trivial⟩ Tryz.func249 rfl (by kernel_rfl) Tryz.call249 trivial (ts := pGetTs) (rs := pGetRs) (t := fun a => pGetT a.1 a.2) (fun a => by kernel_rfl)

abbrev pSetTs : List Sh := [Sh.agg (R.pair (R.int IntKind.u8) (R.pair (R.int IntKind.u8) (R.pair (R.int IntKind.u8) (R.pair (R.int IntKind.u8) (R.pair (R.int IntKind.u8) (R.pair (R.int IntKind.u8) (R.pair (R.int IntKind.u8) (R.pair (R.pair R.bool (R.pair R.bool (R.pair R.bool (R.pair R.bool (R.pair R.bool (R.pair R.bool R.bool)))))) (R.pair (R.int IntKind.u16) (R.int IntKind.u16)))))))))), Sh.one (R.int IntKind.i64), Sh.one (R.int IntKind.u8)]

abbrev pSetRs : Rs := Rs.one (Sh.agg (R.pair (R.int IntKind.u8) (R.pair (R.int IntKind.u8) (R.pair (R.int IntKind.u8) (R.pair (R.int IntKind.u8) (R.pair (R.int IntKind.u8) (R.pair (R.int IntKind.u8) (R.pair (R.int IntKind.u8) (R.pair (R.pair R.bool (R.pair R.bool (R.pair R.bool (R.pair R.bool (R.pair R.bool (R.pair R.bool R.bool)))))) (R.pair (R.int IntKind.u16) (R.int IntKind.u16)))))))))))

noncomputable def pSetT (r : TR) (n : Int) (v : Int) : RT TR :=
  .br (andI IntKind.i64 n 7 == 0)
  (.leaf ((r.1, v, r.2.2)))
  (.br (andI IntKind.i64 n 7 == 1)
   (.leaf ((r.1, r.2.1, v, r.2.2.2)))
   (.br (andI IntKind.i64 n 7 == 2)
    (.leaf ((r.1, r.2.1, r.2.2.1, v, r.2.2.2.2)))
    (.br (andI IntKind.i64 n 7 == 3)
     (.leaf ((r.1, r.2.1, r.2.2.1, r.2.2.2.1, v, r.2.2.2.2.2)))
     (.br (andI IntKind.i64 n 7 == 4)
      (.leaf ((r.1, r.2.1, r.2.2.1, r.2.2.2.1, r.2.2.2.2.1, v, r.2.2.2.2.2.2)))
      (.br (andI IntKind.i64 n 7 == 5)
       (.leaf ((r.1, r.2.1, r.2.2.1, r.2.2.2.1, r.2.2.2.2.1, r.2.2.2.2.2.1, v, r.2.2.2.2.2.2.2)))
       (.br (andI IntKind.i64 n 7 == 7)
        (.leaf ((v, r.2)))
        (.leaf (r))))))))

noncomputable def pSet (r : TR) (n : Int) (v : Int) : TR := (pSetT r n v).val

noncomputable def pSetE : Entry := pureE pSetTs pSetRs (fun _ => none) (fun a => pSet a.1 a.2.1 a.2.2)

theorem pSet_ok : EntryOk Tryz.prog 269 pSetE :=
  pure_tot (P := Tryz.prog) (n := 255) (k := 8) (l := [(289, iregs_atE)]) (ol := []) ⟨iregs_at_ok, trivial⟩ Tryz.func269 rfl (by kernel_rfl) Tryz.call269 trivial (ts := pSetTs) (rs := pSetRs) (t := fun a => pSetT a.1 a.2.1 a.2.2) (fun a => by kernel_rfl)

abbrev pPairTs : List Sh := [Sh.agg (R.pair (R.int IntKind.u8) (R.pair (R.int IntKind.u8) (R.pair (R.int IntKind.u8) (R.pair (R.int IntKind.u8) (R.pair (R.int IntKind.u8) (R.pair (R.int IntKind.u8) (R.pair (R.int IntKind.u8) (R.pair (R.pair R.bool (R.pair R.bool (R.pair R.bool (R.pair R.bool (R.pair R.bool (R.pair R.bool R.bool)))))) (R.pair (R.int IntKind.u16) (R.int IntKind.u16)))))))))), Sh.one (R.int IntKind.i64)]

abbrev pPairRs : Rs := Rs.one (Sh.one (R.int IntKind.u16))

noncomputable def pPairT (r : TR) (n : Int) : RT (Int) :=
  .br (andI IntKind.i64 n 3 == 3)
  (.leaf r.2.2.2.2.2.2.2.2.1)
  (.leaf (pJoin (pGet r (IntKind.i64.wrap (2 * andI IntKind.i64 n 3))) (pGet r (IntKind.i64.wrap (IntKind.i64.wrap (2 * andI IntKind.i64 n 3) + 1)))))

noncomputable def pPair (r : TR) (n : Int) : Int := (pPairT r n).val

noncomputable def pPairE : Entry := pureE pPairTs pPairRs (fun _ => none) (fun a => pPair a.1 a.2)

theorem pPair_ok : EntryOk Tryz.prog 248 pPairE :=
  pure_tot (P := Tryz.prog) (n := 31) (k := 8) (l := [(217, pJoinE), (249, pGetE)]) (ol := []) ⟨pJoin_ok, pGet_ok, trivial⟩ Tryz.func248 rfl (by kernel_rfl) Tryz.call248 trivial (ts := pPairTs) (rs := pPairRs) (t := fun a => pPairT a.1 a.2) (fun a => by kernel_rfl)

abbrev pSetPairTs : List Sh := [Sh.agg (R.pair (R.int IntKind.u8) (R.pair (R.int IntKind.u8) (R.pair (R.int IntKind.u8) (R.pair (R.int IntKind.u8) (R.pair (R.int IntKind.u8) (R.pair (R.int IntKind.u8) (R.pair (R.int IntKind.u8) (R.pair (R.pair R.bool (R.pair R.bool (R.pair R.bool (R.pair R.bool (R.pair R.bool (R.pair R.bool R.bool)))))) (R.pair (R.int IntKind.u16) (R.int IntKind.u16)))))))))), Sh.one (R.int IntKind.i64), Sh.one (R.int IntKind.u16)]

abbrev pSetPairRs : Rs := Rs.one (Sh.agg (R.pair (R.int IntKind.u8) (R.pair (R.int IntKind.u8) (R.pair (R.int IntKind.u8) (R.pair (R.int IntKind.u8) (R.pair (R.int IntKind.u8) (R.pair (R.int IntKind.u8) (R.pair (R.int IntKind.u8) (R.pair (R.pair R.bool (R.pair R.bool (R.pair R.bool (R.pair R.bool (R.pair R.bool (R.pair R.bool R.bool)))))) (R.pair (R.int IntKind.u16) (R.int IntKind.u16)))))))))))

noncomputable def pSetPairT (r : TR) (n : Int) (v : Int) : RT TR :=
  .br (andI IntKind.i64 n 3 == 3)
  (.leaf ((r.1, r.2.1, r.2.2.1, r.2.2.2.1, r.2.2.2.2.1, r.2.2.2.2.2.1, r.2.2.2.2.2.2.1, r.2.2.2.2.2.2.2.1, v, r.2.2.2.2.2.2.2.2.2)))
  (.leaf (pSet (pSet r (IntKind.i64.wrap (2 * andI IntKind.i64 n 3)) (IntKind.u8.wrap (shrI IntKind.u16 v 8))) (IntKind.i64.wrap (IntKind.i64.wrap (2 * andI IntKind.i64 n 3) + 1)) (IntKind.u8.wrap v)))

noncomputable def pSetPair (r : TR) (n : Int) (v : Int) : TR := (pSetPairT r n v).val

noncomputable def pSetPairE : Entry := pureE pSetPairTs pSetPairRs (fun _ => none) (fun a => pSetPair a.1 a.2.1 a.2.2)

theorem pSetPair_ok : EntryOk Tryz.prog 270 pSetPairE :=
  pure_tot (P := Tryz.prog) (n := 127) (k := 8) (l := [(269, pSetE)]) (ol := []) ⟨pSet_ok, trivial⟩ Tryz.func270 rfl (by kernel_rfl) Tryz.call270 trivial (ts := pSetPairTs) (rs := pSetPairRs) (t := fun a => pSetPairT a.1 a.2.1 a.2.2) (fun a => by kernel_rfl)

abbrev pPSWTs : List Sh := [Sh.one (R.int IntKind.i64), Sh.agg (R.pair (R.int IntKind.u8) (R.pair (R.int IntKind.u8) (R.pair (R.int IntKind.u8) (R.pair (R.int IntKind.u8) (R.pair (R.int IntKind.u8) (R.pair (R.int IntKind.u8) (R.pair (R.int IntKind.u8) (R.pair (R.pair R.bool (R.pair R.bool (R.pair R.bool (R.pair R.bool (R.pair R.bool (R.pair R.bool R.bool)))))) (R.pair (R.int IntKind.u16) (R.int IntKind.u16))))))))))]

abbrev pPSWRs : Rs := Rs.one (Sh.one (R.int IntKind.u16))

noncomputable def pPSWT (chip : Int) (r : TR) : RT (Option (Int)) :=
  .br (pPackC chip r.2.2.2.2.2.2.2.1)
  (.leaf (some (pJoin r.1 (pPack chip r.2.2.2.2.2.2.2.1))))
  (.leaf none)

noncomputable def pPSW (chip : Int) (r : TR) : Int := getO pPSWRs.dflt (pPSWT chip r).val

noncomputable def pPSWC (chip : Int) (r : TR) : Bool := okB (pPSWT chip r).val

noncomputable def pPSWE : Entry := pureE pPSWTs pPSWRs (fun a => some (pPSWC a.1 a.2)) (fun a => pPSW a.1 a.2)

theorem pPSW_ok : EntryOk Tryz.prog 256 pPSWE :=
  pure_part (P := Tryz.prog) (n := 31) (k := 8) (l := [(217, pJoinE), (294, pPackE)]) (ol := []) ⟨pJoin_ok, pPack_ok, trivial⟩ Tryz.func256 rfl (by kernel_rfl) Tryz.call256 trivial (ts := pPSWTs) (rs := pPSWRs) (t := fun a => pPSWT a.1 a.2) (fun a => by kernel_rfl)

abbrev pSetPSWTs : List Sh := [Sh.one (R.int IntKind.i64), Sh.agg (R.pair (R.int IntKind.u8) (R.pair (R.int IntKind.u8) (R.pair (R.int IntKind.u8) (R.pair (R.int IntKind.u8) (R.pair (R.int IntKind.u8) (R.pair (R.int IntKind.u8) (R.pair (R.int IntKind.u8) (R.pair (R.pair R.bool (R.pair R.bool (R.pair R.bool (R.pair R.bool (R.pair R.bool (R.pair R.bool R.bool)))))) (R.pair (R.int IntKind.u16) (R.int IntKind.u16)))))))))), Sh.one (R.int IntKind.u16)]

abbrev pSetPSWRs : Rs := Rs.one (Sh.agg (R.pair (R.int IntKind.u8) (R.pair (R.int IntKind.u8) (R.pair (R.int IntKind.u8) (R.pair (R.int IntKind.u8) (R.pair (R.int IntKind.u8) (R.pair (R.int IntKind.u8) (R.pair (R.int IntKind.u8) (R.pair (R.pair R.bool (R.pair R.bool (R.pair R.bool (R.pair R.bool (R.pair R.bool (R.pair R.bool R.bool)))))) (R.pair (R.int IntKind.u16) (R.int IntKind.u16)))))))))))

noncomputable def pSetPSWT (chip : Int) (r : TR) (v : Int) : RT TR :=
  .leaf ((IntKind.u8.wrap (shrI IntKind.u16 v 8), r.2.1, r.2.2.1, r.2.2.2.1, r.2.2.2.2.1, r.2.2.2.2.2.1, r.2.2.2.2.2.2.1, pUnpack chip (IntKind.u8.wrap v), r.2.2.2.2.2.2.2.2))

noncomputable def pSetPSW (chip : Int) (r : TR) (v : Int) : TR := (pSetPSWT chip r v).val

noncomputable def pSetPSWE : Entry := pureE pSetPSWTs pSetPSWRs (fun _ => none) (fun a => pSetPSW a.1 a.2.1 a.2.2)

theorem pSetPSW_ok : EntryOk Tryz.prog 278 pSetPSWE :=
  pure_tot (P := Tryz.prog) (n := 127) (k := 8) (l := [(307, pUnpackE)]) (ol := []) ⟨pUnpack_ok, trivial⟩ Tryz.func278 rfl (by kernel_rfl) Tryz.call278 trivial (ts := pSetPSWTs) (rs := pSetPSWRs) (t := fun a => pSetPSWT a.1 a.2.1 a.2.2) (fun a => by kernel_rfl)

abbrev pLogicTs : List Sh := [Sh.one (R.int IntKind.i64), Sh.one (R.int IntKind.i64), Sh.one (R.int IntKind.u8), Sh.one (R.int IntKind.u8)]

abbrev pLogicRs : Rs := Rs.tup [Sh.one (R.int IntKind.u8), Sh.agg (R.pair R.bool (R.pair R.bool (R.pair R.bool (R.pair R.bool (R.pair R.bool (R.pair R.bool R.bool))))))]

noncomputable def pLogicT (chip : Int) (op : Int) (a : Int) (b : Int) : RT (Option (Int × Bool × Bool × Bool × Bool × Bool × Bool × Bool)) :=
  let x1 : Int := bif op == 4 then andI IntKind.u8 a b else bif op == 5 then xorI IntKind.u8 a b else bif op == 6 then orI IntKind.u8 a b else 0
  let x2 : TF := pOf x1
  let x3 : Bool × Bool × Bool × Bool × Bool × Bool := x2.2
  let x4 : Bool × Bool × Bool × Bool × Bool := x3.2
  .br (pOfC x1)
  (.leaf (some ((x1, x2.1, x3.1, bif chip == 2 then pMaj (decide (a ≥ 128)) (decide (b ≥ 128)) (decide (x1 ≥ 128)) else x4.1, op == 4 && (chip == 2 || andI IntKind.u8 (orI IntKind.u8 a b) 8 != 0), x4.2.2))))
  (.leaf none)

noncomputable def pLogic (chip : Int) (op : Int) (a : Int) (b : Int) : Int × Bool × Bool × Bool × Bool × Bool × Bool × Bool := getO pLogicRs.dflt (pLogicT chip op a b).val

noncomputable def pLogicC (chip : Int) (op : Int) (a : Int) (b : Int) : Bool := okB (pLogicT chip op a b).val

noncomputable def pLogicE : Entry := pureE pLogicTs pLogicRs (fun a => some (pLogicC a.1 a.2.1 a.2.2.1 a.2.2.2)) (fun a => pLogic a.1 a.2.1 a.2.2.1 a.2.2.2)

theorem pLogic_ok : EntryOk Tryz.prog 299 pLogicE :=
  pure_part (P := Tryz.prog) (n := 8858394623) (k := 8) (l := [(300, pOfE), (301, pMajE)]) (ol := []) ⟨pOf_ok, pMaj_ok, trivial⟩ Tryz.func299 rfl (by kernel_rfl) Tryz.call299 trivial (ts := pLogicTs) (rs := pLogicRs) (t := fun a => pLogicT a.1 a.2.1 a.2.2.1 a.2.2.2) (fun a => by kernel_rfl)

abbrev pDoTs : List Sh := [Sh.one (R.int IntKind.i64), Sh.one (R.int IntKind.i64), Sh.one (R.int IntKind.u8), Sh.one (R.int IntKind.u8), Sh.agg (R.pair R.bool (R.pair R.bool (R.pair R.bool (R.pair R.bool (R.pair R.bool (R.pair R.bool R.bool))))))]

abbrev pDoRs : Rs := Rs.tup [Sh.one (R.int IntKind.u8), Sh.agg (R.pair R.bool (R.pair R.bool (R.pair R.bool (R.pair R.bool (R.pair R.bool (R.pair R.bool R.bool))))))]

noncomputable def pDoT (chip : Int) (op : Int) (a : Int) (b : Int) (f : TF) : RT (Option (Int × Bool × Bool × Bool × Bool × Bool × Bool × Bool)) :=
  let x1 : Bool := decide (andI IntKind.i64 op 7 ≥ 4) && decide (andI IntKind.i64 op 7 ≤ 6)
  let x2 : Bool := f.2.2.2.2.2.2 && (andI IntKind.i64 op 7 == 1 || andI IntKind.i64 op 7 == 3)
  let x3 : Int × Bool × Bool × Bool := pDiff a b x2
  let x4 : Int := x3.1
  let x5 : TF := pOf x4
  let x6 : Bool × Bool × Bool × Bool × Bool × Bool := x5.2
  let x7 : Bool × Bool × Bool × Bool × Bool := x6.2
  let x8 : Bool × Bool × Bool := x3.2
  let x9 : Bool × Bool := x8.2
  let x10 : Bool × Bool × Bool := x7.2.2
  let x11 : TF := (x5.1, x6.1, bif chip == 2 then pMaj (decide (a ≥ 128)) (decide (b < 128)) (decide (x4 ≥ 128)) else x7.1, x9.1, x10.1, bif chip == 2 then x9.2 else x10.2.1, x8.1)
  let x12 : Int × Bool × Bool × Bool := pSum a b x2
  let x13 : Int := x12.1
  let x14 : TF := pOf x13
  let x15 : Bool × Bool × Bool × Bool × Bool × Bool := x14.2
  let x16 : Bool × Bool × Bool × Bool × Bool := x15.2
  let x17 : Bool × Bool × Bool := x12.2
  let x18 : Bool × Bool := x17.2
  let x19 : Bool × Bool × Bool := x16.2.2
  let x20 : TF := (x14.1, x15.1, bif chip == 2 then pMaj (decide (a ≥ 128)) (decide (b ≥ 128)) (decide (x13 ≥ 128)) else x16.1, x18.1, x19.1, bif chip == 2 then x18.2 else x19.2.1, x17.1)
  .br (!x1 || pLogicC chip (andI IntKind.i64 op 7) a b)
  (.br (x1)
   (.leaf (some (pLogic chip (andI IntKind.i64 op 7) a b)))
   (.br (andI IntKind.i64 op 7 != 0 && andI IntKind.i64 op 7 != 1)
    (.br (pOfC x4)
     (.br (andI IntKind.i64 op 7 == 7)
      (.leaf (some ((a, x11))))
      (.leaf (some ((x4, x11)))))
     (.leaf none))
    (.br (pOfC x13)
     (.br (andI IntKind.i64 op 7 == 7)
      (.leaf (some ((a, x20))))
      (.leaf (some ((x13, x20)))))
     (.leaf none))))
  (.leaf none)

noncomputable def pDo (chip : Int) (op : Int) (a : Int) (b : Int) (f : TF) : Int × Bool × Bool × Bool × Bool × Bool × Bool × Bool := getO pDoRs.dflt (pDoT chip op a b f).val

noncomputable def pDoC (chip : Int) (op : Int) (a : Int) (b : Int) (f : TF) : Bool := okB (pDoT chip op a b f).val

noncomputable def pDoE : Entry := pureE pDoTs pDoRs (fun a => some (pDoC a.1 a.2.1 a.2.2.1 a.2.2.2.1 a.2.2.2.2)) (fun a => pDo a.1 a.2.1 a.2.2.1 a.2.2.2.1 a.2.2.2.2)

theorem pDo_ok : EntryOk Tryz.prog 271 pDoE :=
  pure_part (P := Tryz.prog) (n := 1048575) (k := 8) (l := [(290, pSumE), (292, pDiffE), (299, pLogicE), (300, pOfE), (301, pMajE)]) (ol := []) ⟨pSum_ok, pDiff_ok, pLogic_ok, pOf_ok, pMaj_ok, trivial⟩ Tryz.func271 rfl (by kernel_rfl) Tryz.call271 trivial (ts := pDoTs) (rs := pDoRs) (t := fun a => pDoT a.1 a.2.1 a.2.2.1 a.2.2.2.1 a.2.2.2.2) (fun a => by kernel_rfl)

abbrev pResultTs : List Sh := [Sh.one (R.int IntKind.i64), Sh.one (R.int IntKind.u8), Sh.one (R.int IntKind.u8), Sh.one R.bool, Sh.one R.bool, Sh.one R.bool, Sh.agg (R.pair R.bool (R.pair R.bool (R.pair R.bool (R.pair R.bool (R.pair R.bool (R.pair R.bool R.bool))))))]

abbrev pResultRs : Rs := Rs.one (Sh.agg (R.pair R.bool (R.pair R.bool (R.pair R.bool (R.pair R.bool (R.pair R.bool (R.pair R.bool R.bool)))))))

noncomputable def pResultT (chip : Int) (v : Int) (r : Int) (half : Bool) (over : Bool) (x : Bool) (f : TF) : RT (Option TF) :=
  .br (pOfC r)
  (.leaf (some (((pOf r).1, (pOf r).2.1, bif chip == 2 then pMaj (decide (v ≥ 128)) x (decide (r ≥ 128)) else (pOf r).2.2.1, half, (pOf r).2.2.2.2.1, bif chip == 2 then over else (pOf r).2.2.2.2.2.1, f.2.2.2.2.2.2))))
  (.leaf none)

noncomputable def pResult (chip : Int) (v : Int) (r : Int) (half : Bool) (over : Bool) (x : Bool) (f : TF) : TF := getO pResultRs.dflt (pResultT chip v r half over x f).val

noncomputable def pResultC (chip : Int) (v : Int) (r : Int) (half : Bool) (over : Bool) (x : Bool) (f : TF) : Bool := okB (pResultT chip v r half over x f).val

noncomputable def pResultE : Entry := pureE pResultTs pResultRs (fun a => some (pResultC a.1 a.2.1 a.2.2.1 a.2.2.2.1 a.2.2.2.2.1 a.2.2.2.2.2.1 a.2.2.2.2.2.2)) (fun a => pResult a.1 a.2.1 a.2.2.1 a.2.2.2.1 a.2.2.2.2.1 a.2.2.2.2.2.1 a.2.2.2.2.2.2)

theorem pResult_ok : EntryOk Tryz.prog 291 pResultE :=
  pure_part (P := Tryz.prog) (n := 65535) (k := 8) (l := [(300, pOfE), (301, pMajE)]) (ol := []) ⟨pOf_ok, pMaj_ok, trivial⟩ Tryz.func291 rfl (by kernel_rfl) Tryz.call291 trivial (ts := pResultTs) (rs := pResultRs) (t := fun a => pResultT a.1 a.2.1 a.2.2.1 a.2.2.2.1 a.2.2.2.2.1 a.2.2.2.2.2.1 a.2.2.2.2.2.2) (fun a => by kernel_rfl)

abbrev pInrTs : List Sh := [Sh.one (R.int IntKind.i64), Sh.one (R.int IntKind.u8), Sh.agg (R.pair R.bool (R.pair R.bool (R.pair R.bool (R.pair R.bool (R.pair R.bool (R.pair R.bool R.bool))))))]

abbrev pInrRs : Rs := Rs.tup [Sh.one (R.int IntKind.u8), Sh.agg (R.pair R.bool (R.pair R.bool (R.pair R.bool (R.pair R.bool (R.pair R.bool (R.pair R.bool R.bool))))))]

noncomputable def pInrT (chip : Int) (v : Int) (f : TF) : RT (Option (Int × Bool × Bool × Bool × Bool × Bool × Bool × Bool)) :=
  .br (pResultC chip v (pSum v 1 false).1 (pSum v 1 false).2.2.1 (pSum v 1 false).2.2.2 false f)
  (.leaf (some (((pSum v 1 false).1, pResult chip v (pSum v 1 false).1 (pSum v 1 false).2.2.1 (pSum v 1 false).2.2.2 false f))))
  (.leaf none)

noncomputable def pInr (chip : Int) (v : Int) (f : TF) : Int × Bool × Bool × Bool × Bool × Bool × Bool × Bool := getO pInrRs.dflt (pInrT chip v f).val

noncomputable def pInrC (chip : Int) (v : Int) (f : TF) : Bool := okB (pInrT chip v f).val

noncomputable def pInrE : Entry := pureE pInrTs pInrRs (fun a => some (pInrC a.1 a.2.1 a.2.2)) (fun a => pInr a.1 a.2.1 a.2.2)

theorem pInr_ok : EntryOk Tryz.prog 250 pInrE :=
  pure_part (P := Tryz.prog) (n := 4095) (k := 8) (l := [(290, pSumE), (291, pResultE)]) (ol := []) ⟨pSum_ok, pResult_ok, trivial⟩ Tryz.func250 rfl (by kernel_rfl) Tryz.call250 trivial (ts := pInrTs) (rs := pInrRs) (t := fun a => pInrT a.1 a.2.1 a.2.2) (fun a => by kernel_rfl)

abbrev pDcrTs : List Sh := [Sh.one (R.int IntKind.i64), Sh.one (R.int IntKind.u8), Sh.agg (R.pair R.bool (R.pair R.bool (R.pair R.bool (R.pair R.bool (R.pair R.bool (R.pair R.bool R.bool))))))]

abbrev pDcrRs : Rs := Rs.tup [Sh.one (R.int IntKind.u8), Sh.agg (R.pair R.bool (R.pair R.bool (R.pair R.bool (R.pair R.bool (R.pair R.bool (R.pair R.bool R.bool))))))]

noncomputable def pDcrT (chip : Int) (v : Int) (f : TF) : RT (Option (Int × Bool × Bool × Bool × Bool × Bool × Bool × Bool)) :=
  .br (pResultC chip v (pDiff v 1 false).1 (pDiff v 1 false).2.2.1 (pDiff v 1 false).2.2.2 true f)
  (.leaf (some (((pDiff v 1 false).1, pResult chip v (pDiff v 1 false).1 (pDiff v 1 false).2.2.1 (pDiff v 1 false).2.2.2 true f))))
  (.leaf none)

noncomputable def pDcr (chip : Int) (v : Int) (f : TF) : Int × Bool × Bool × Bool × Bool × Bool × Bool × Bool := getO pDcrRs.dflt (pDcrT chip v f).val

noncomputable def pDcrC (chip : Int) (v : Int) (f : TF) : Bool := okB (pDcrT chip v f).val

noncomputable def pDcrE : Entry := pureE pDcrTs pDcrRs (fun a => some (pDcrC a.1 a.2.1 a.2.2)) (fun a => pDcr a.1 a.2.1 a.2.2)

theorem pDcr_ok : EntryOk Tryz.prog 251 pDcrE :=
  pure_part (P := Tryz.prog) (n := 4095) (k := 8) (l := [(291, pResultE), (292, pDiffE)]) (ol := []) ⟨pResult_ok, pDiff_ok, trivial⟩ Tryz.func251 rfl (by kernel_rfl) Tryz.call251 trivial (ts := pDcrTs) (rs := pDcrRs) (t := fun a => pDcrT a.1 a.2.1 a.2.2) (fun a => by kernel_rfl)

abbrev pInxTs : List Sh := [Sh.one (R.int IntKind.i64), Sh.one (R.int IntKind.u16), Sh.agg (R.pair R.bool (R.pair R.bool (R.pair R.bool (R.pair R.bool (R.pair R.bool (R.pair R.bool R.bool))))))]

abbrev pInxRs : Rs := Rs.tup [Sh.one (R.int IntKind.u16), Sh.agg (R.pair R.bool (R.pair R.bool (R.pair R.bool (R.pair R.bool (R.pair R.bool (R.pair R.bool R.bool))))))]

noncomputable def pInxT (chip : Int) (v : Int) (f : TF) : RT (Int × Bool × Bool × Bool × Bool × Bool × Bool × Bool) :=
  .leaf ((IntKind.u16.wrap (v + 1), f.1, f.2.1, bif chip == 2 then v == 65535 else f.2.2.1, f.2.2.2))

noncomputable def pInx (chip : Int) (v : Int) (f : TF) : Int × Bool × Bool × Bool × Bool × Bool × Bool × Bool := (pInxT chip v f).val

noncomputable def pInxE : Entry := pureE pInxTs pInxRs (fun _ => none) (fun a => pInx a.1 a.2.1 a.2.2)

theorem pInx_ok : EntryOk Tryz.prog 273 pInxE :=
  pure_tot (P := Tryz.prog) (n := 255) (k := 8) (l := []) (ol := []) trivial Tryz.func273 rfl (by kernel_rfl) Tryz.call273 trivial (ts := pInxTs) (rs := pInxRs) (t := fun a => pInxT a.1 a.2.1 a.2.2) (fun a => by kernel_rfl)

abbrev pDcxTs : List Sh := [Sh.one (R.int IntKind.i64), Sh.one (R.int IntKind.u16), Sh.agg (R.pair R.bool (R.pair R.bool (R.pair R.bool (R.pair R.bool (R.pair R.bool (R.pair R.bool R.bool))))))]

abbrev pDcxRs : Rs := Rs.tup [Sh.one (R.int IntKind.u16), Sh.agg (R.pair R.bool (R.pair R.bool (R.pair R.bool (R.pair R.bool (R.pair R.bool (R.pair R.bool R.bool))))))]

noncomputable def pDcxT (chip : Int) (v : Int) (f : TF) : RT (Int × Bool × Bool × Bool × Bool × Bool × Bool × Bool) :=
  .leaf ((IntKind.u16.wrap (v - 1), f.1, f.2.1, bif chip == 2 then v == 0 else f.2.2.1, f.2.2.2))

noncomputable def pDcx (chip : Int) (v : Int) (f : TF) : Int × Bool × Bool × Bool × Bool × Bool × Bool × Bool := (pDcxT chip v f).val

noncomputable def pDcxE : Entry := pureE pDcxTs pDcxRs (fun _ => none) (fun a => pDcx a.1 a.2.1 a.2.2)

theorem pDcx_ok : EntryOk Tryz.prog 274 pDcxE :=
  pure_tot (P := Tryz.prog) (n := 255) (k := 8) (l := []) (ol := []) trivial Tryz.func274 rfl (by kernel_rfl) Tryz.call274 trivial (ts := pDcxTs) (rs := pDcxRs) (t := fun a => pDcxT a.1 a.2.1 a.2.2) (fun a => by kernel_rfl)

abbrev pDadTs : List Sh := [Sh.one (R.int IntKind.i64), Sh.one (R.int IntKind.u16), Sh.one (R.int IntKind.u16), Sh.agg (R.pair R.bool (R.pair R.bool (R.pair R.bool (R.pair R.bool (R.pair R.bool (R.pair R.bool R.bool))))))]

abbrev pDadRs : Rs := Rs.tup [Sh.one (R.int IntKind.u16), Sh.agg (R.pair R.bool (R.pair R.bool (R.pair R.bool (R.pair R.bool (R.pair R.bool (R.pair R.bool R.bool))))))]

noncomputable def pDadT (chip : Int) (a : Int) (b : Int) (f : TF) : RT (Int × Bool × Bool × Bool × Bool × Bool × Bool × Bool) :=
  .leaf ((IntKind.u16.wrap (a + b), f.1, f.2.1, f.2.2.1, f.2.2.2.1, f.2.2.2.2.1, bif chip == 2 then andI IntKind.u16 (andI IntKind.u16 (xorI IntKind.u16 a (IntKind.u16.wrap (a + b))) (xorI IntKind.u16 b (IntKind.u16.wrap (a + b)))) 32768 != 0 else f.2.2.2.2.2.1, decide (IntKind.u16.wrap (a + b) < a)))

noncomputable def pDad (chip : Int) (a : Int) (b : Int) (f : TF) : Int × Bool × Bool × Bool × Bool × Bool × Bool × Bool := (pDadT chip a b f).val

noncomputable def pDadE : Entry := pureE pDadTs pDadRs (fun _ => none) (fun a => pDad a.1 a.2.1 a.2.2.1 a.2.2.2)

theorem pDad_ok : EntryOk Tryz.prog 275 pDadE :=
  pure_tot (P := Tryz.prog) (n := 2047) (k := 8) (l := []) (ol := []) trivial Tryz.func275 rfl (by kernel_rfl) Tryz.call275 trivial (ts := pDadTs) (rs := pDadRs) (t := fun a => pDadT a.1 a.2.1 a.2.2.1 a.2.2.2) (fun a => by kernel_rfl)

abbrev pDsubTs : List Sh := [Sh.one (R.int IntKind.u16), Sh.one (R.int IntKind.u16)]

abbrev pDsubRs : Rs := Rs.tup [Sh.one (R.int IntKind.u16), Sh.agg (R.pair R.bool (R.pair R.bool (R.pair R.bool (R.pair R.bool (R.pair R.bool (R.pair R.bool R.bool))))))]

noncomputable def pDsubT (a : Int) (b : Int) : RT (Option (Int × Bool × Bool × Bool × Bool × Bool × Bool × Bool)) :=
  let x1 : Int × Bool × Bool × Bool := pDiff (IntKind.u8.wrap (shrI IntKind.u16 a 8)) (IntKind.u8.wrap (shrI IntKind.u16 b 8)) (pDiff (IntKind.u8.wrap a) (IntKind.u8.wrap b) false).2.1
  let x2 : Int := x1.1
  let x3 : TF := pOf x2
  let x4 : Bool × Bool × Bool := x1.2
  let x5 : Bool × Bool := x4.2
  .br (pOfC x2)
  (.leaf (some ((pJoin x2 (pDiff (IntKind.u8.wrap a) (IntKind.u8.wrap b) false).1, x3.1, x2 == 0 && (pDiff (IntKind.u8.wrap a) (IntKind.u8.wrap b) false).1 == 0, pMaj (decide (a ≥ 32768)) (decide (b < 32768)) (decide (x2 ≥ 128)), x5.1, x3.2.2.2.2.1, x5.2, x4.1))))
  (.leaf none)

noncomputable def pDsub (a : Int) (b : Int) : Int × Bool × Bool × Bool × Bool × Bool × Bool × Bool := getO pDsubRs.dflt (pDsubT a b).val

noncomputable def pDsubC (a : Int) (b : Int) : Bool := okB (pDsubT a b).val

noncomputable def pDsubE : Entry := pureE pDsubTs pDsubRs (fun a => some (pDsubC a.1 a.2)) (fun a => pDsub a.1 a.2)

theorem pDsub_ok : EntryOk Tryz.prog 280 pDsubE :=
  pure_part (P := Tryz.prog) (n := 32767) (k := 8) (l := [(217, pJoinE), (292, pDiffE), (300, pOfE), (301, pMajE)]) (ol := []) ⟨pJoin_ok, pDiff_ok, pOf_ok, pMaj_ok, trivial⟩ Tryz.func280 rfl (by kernel_rfl) Tryz.call280 trivial (ts := pDsubTs) (rs := pDsubRs) (t := fun a => pDsubT a.1 a.2) (fun a => by kernel_rfl)

abbrev pDaaTs : List Sh := [Sh.one (R.int IntKind.i64), Sh.one (R.int IntKind.u8), Sh.agg (R.pair R.bool (R.pair R.bool (R.pair R.bool (R.pair R.bool (R.pair R.bool (R.pair R.bool R.bool))))))]

abbrev pDaaRs : Rs := Rs.tup [Sh.one (R.int IntKind.u8), Sh.agg (R.pair R.bool (R.pair R.bool (R.pair R.bool (R.pair R.bool (R.pair R.bool (R.pair R.bool R.bool))))))]

noncomputable def pDaaT (chip : Int) (a : Int) (f : TF) : RT (Option (Int × Bool × Bool × Bool × Bool × Bool × Bool × Bool)) :=
  let x1 : Int := bif f.2.2.2.1 || decide (andI IntKind.u8 a 15 > 9) then 6 else 0
  let x2 : Int × Bool × Bool × Bool := pSum a (bif f.2.2.2.2.2.2 || decide (a > 153) then IntKind.u8.wrap (x1 + 96) else x1) false
  let x3 : Int := x2.1
  let x4 : TF := pOf x3
  let x5 : Bool × Bool × Bool × Bool × Bool × Bool := x4.2
  let x6 : Bool × Bool × Bool × Bool × Bool := x5.2
  let x7 : Bool × Bool := x2.2.2
  let x8 : Bool × Bool × Bool := x6.2.2
  .br (pOfC x3)
  (.leaf (some ((x3, x4.1, x5.1, bif chip == 2 then pMaj (decide (a ≥ 128)) false (decide (x3 ≥ 128)) else x6.1, x7.1, x8.1, bif chip == 2 then x7.2 else x8.2.1, f.2.2.2.2.2.2 || decide (a > 153)))))
  (.leaf none)

noncomputable def pDaa (chip : Int) (a : Int) (f : TF) : Int × Bool × Bool × Bool × Bool × Bool × Bool × Bool := getO pDaaRs.dflt (pDaaT chip a f).val

noncomputable def pDaaC (chip : Int) (a : Int) (f : TF) : Bool := okB (pDaaT chip a f).val

noncomputable def pDaaE : Entry := pureE pDaaTs pDaaRs (fun a => some (pDaaC a.1 a.2.1 a.2.2)) (fun a => pDaa a.1 a.2.1 a.2.2)

theorem pDaa_ok : EntryOk Tryz.prog 276 pDaaE :=
  pure_part (P := Tryz.prog) (n := 32767) (k := 8) (l := [(290, pSumE), (300, pOfE), (301, pMajE)]) (ol := []) ⟨pSum_ok, pOf_ok, pMaj_ok, trivial⟩ Tryz.func276 rfl (by kernel_rfl) Tryz.call276 trivial (ts := pDaaTs) (rs := pDaaRs) (t := fun a => pDaaT a.1 a.2.1 a.2.2) (fun a => by kernel_rfl)

abbrev pLowTs : List Sh := [Sh.one R.bool]

abbrev pLowRs : Rs := Rs.one (Sh.one (R.int IntKind.u8))

noncomputable def pLowT (c : Bool) : RT (Int) :=
  .br (c)
  (.leaf (1))
  (.leaf (0))

noncomputable def pLow (c : Bool) : Int := (pLowT c).val

noncomputable def pLowE : Entry := pureE pLowTs pLowRs (fun _ => none) (fun a => pLow a)

theorem pLow_ok : EntryOk Tryz.prog 305 pLowE :=
  pure_tot (P := Tryz.prog) (n := 7) (k := 8) (l := []) (ol := []) trivial Tryz.func305 rfl (by kernel_rfl) Tryz.call305 trivial (ts := pLowTs) (rs := pLowRs) (t := fun a => pLowT a) (fun a => by kernel_rfl)

noncomputable def irotate_Byte_1E : Entry := .tree (evFunc (envX Tryz.prog [] [] 7 8) Tryz.f302)

theorem irotate_Byte_1_ok : EntryOk Tryz.prog 302 irotate_Byte_1E := inl_ok (P := Tryz.prog) (n := 7) (k := 8) (l := []) (ol := []) trivial Tryz.func302 rfl (by kernel_rfl) Tryz.call302 trivial

noncomputable def irotate_Byte_2E : Entry := .tree (evFunc (envX Tryz.prog [] [] 7 8) Tryz.f303)

theorem irotate_Byte_2_ok : EntryOk Tryz.prog 303 irotate_Byte_2E := inl_ok (P := Tryz.prog) (n := 7) (k := 8) (l := []) (ol := []) trivial Tryz.func303 rfl (by kernel_rfl) Tryz.call303 trivial

noncomputable def irotate_Byte_3E : Entry := .tree (evFunc (envX Tryz.prog [(305, pLowE)] [] 15 8) Tryz.f304)

theorem irotate_Byte_3_ok : EntryOk Tryz.prog 304 irotate_Byte_3E := inl_ok (P := Tryz.prog) (n := 15) (k := 8) (l := [(305, pLowE)]) (ol := []) ⟨pLow_ok, trivial⟩ Tryz.func304 rfl (by kernel_rfl) Tryz.call304 trivial

noncomputable def irotate_Byte_4E : Entry := .tree (evFunc (envX Tryz.prog [(305, pLowE)] [] 15 8) Tryz.f306)

theorem irotate_Byte_4_ok : EntryOk Tryz.prog 306 irotate_Byte_4E := inl_ok (P := Tryz.prog) (n := 15) (k := 8) (l := [(305, pLowE)]) (ol := []) ⟨pLow_ok, trivial⟩ Tryz.func306 rfl (by kernel_rfl) Tryz.call306 trivial

abbrev pRotTs : List Sh := [Sh.one (R.int IntKind.i64), Sh.one (R.int IntKind.u8), Sh.one R.bool]

abbrev pRotRs : Rs := Rs.tup [Sh.one (R.int IntKind.u8), Sh.one R.bool]

noncomputable def pRotT (op : Int) (a : Int) (c : Bool) : RT (Option (Int × Bool)) :=
  .br (andI IntKind.i64 op 3 == 0 || (andI IntKind.i64 op 3 == ↑(0 + 1) || (andI IntKind.i64 op 3 == ↑(0 + 1 + 1) || andI IntKind.i64 op 3 == ↑(0 + 1 + 1 + 1))))
  (.leaf (some ((bif andI IntKind.i64 op 3 == 0 then orI IntKind.u8 (shlI IntKind.u8 a 1) (shrI IntKind.u8 a 7) else bif andI IntKind.i64 op 3 == ↑(0 + 1) then orI IntKind.u8 (shrI IntKind.u8 a 1) (shlI IntKind.u8 a 7) else bif andI IntKind.i64 op 3 == ↑(0 + 1 + 1) then orI IntKind.u8 (shlI IntKind.u8 a 1) (pLow c) else orI IntKind.u8 (shrI IntKind.u8 a 1) (shlI IntKind.u8 (pLow c) 7), bif andI IntKind.i64 op 3 == 0 then decide (a ≥ 128) else bif andI IntKind.i64 op 3 == ↑(0 + 1) then andI IntKind.u8 a 1 == 1 else bif andI IntKind.i64 op 3 == ↑(0 + 1 + 1) then decide (a ≥ 128) else andI IntKind.u8 a 1 == 1))))
  (.leaf none)

noncomputable def pRot (op : Int) (a : Int) (c : Bool) : Int × Bool := getO pRotRs.dflt (pRotT op a c).val

noncomputable def pRotC (op : Int) (a : Int) (c : Bool) : Bool := okB (pRotT op a c).val

noncomputable def pRotE : Entry := pureE pRotTs pRotRs (fun a => some (pRotC a.1 a.2.1 a.2.2)) (fun a => pRot a.1 a.2.1 a.2.2)

theorem pRot_ok : EntryOk Tryz.prog 277 pRotE :=
  pure_part (P := Tryz.prog) (n := 511) (k := 8) (l := [(302, irotate_Byte_1E), (303, irotate_Byte_2E), (304, irotate_Byte_3E), (306, irotate_Byte_4E)]) (ol := []) ⟨irotate_Byte_1_ok, irotate_Byte_2_ok, irotate_Byte_3_ok, irotate_Byte_4_ok, trivial⟩ Tryz.func277 rfl (by kernel_rfl) Tryz.call277 trivial (ts := pRotTs) (rs := pRotRs) (t := fun a => pRotT a.1 a.2.1 a.2.2) (fun a => by kernel_rfl)

abbrev pArhlTs : List Sh := [Sh.one (R.int IntKind.u16)]

abbrev pArhlRs : Rs := Rs.tup [Sh.one (R.int IntKind.u16), Sh.one R.bool]

noncomputable def pArhlT (v : Int) : RT (Int × Bool) :=
  .leaf ((orI IntKind.u16 (shrI IntKind.u16 v 1) (andI IntKind.u16 v 32768), andI IntKind.u16 v 1 == 1))

noncomputable def pArhl (v : Int) : Int × Bool := (pArhlT v).val

noncomputable def pArhlE : Entry := pureE pArhlTs pArhlRs (fun _ => none) (fun a => pArhl a)

theorem pArhl_ok : EntryOk Tryz.prog 281 pArhlE :=
  pure_tot (P := Tryz.prog) (n := 15) (k := 8) (l := []) (ol := []) trivial Tryz.func281 rfl (by kernel_rfl) Tryz.call281 trivial (ts := pArhlTs) (rs := pArhlRs) (t := fun a => pArhlT a) (fun a => by kernel_rfl)

abbrev pRdelTs : List Sh := [Sh.one (R.int IntKind.u16), Sh.one R.bool]

abbrev pRdelRs : Rs := Rs.tup [Sh.one (R.int IntKind.u16), Sh.one R.bool, Sh.one R.bool]

noncomputable def pRdelT (v : Int) (c : Bool) : RT (Int × Bool × Bool) :=
  .leaf ((orI IntKind.u16 (shlI IntKind.u16 v 1) (IntKind.u16.wrap (pLow c)), decide (v ≥ 32768), andI IntKind.u16 (xorI IntKind.u16 (orI IntKind.u16 (shlI IntKind.u16 v 1) (IntKind.u16.wrap (pLow c))) v) 32768 != 0))

noncomputable def pRdel (v : Int) (c : Bool) : Int × Bool × Bool := (pRdelT v c).val

noncomputable def pRdelE : Entry := pureE pRdelTs pRdelRs (fun _ => none) (fun a => pRdel a.1 a.2)

theorem pRdel_ok : EntryOk Tryz.prog 282 pRdelE :=
  pure_tot (P := Tryz.prog) (n := 127) (k := 8) (l := [(305, pLowE)]) (ol := []) ⟨pLow_ok, trivial⟩ Tryz.func282 rfl (by kernel_rfl) Tryz.call282 trivial (ts := pRdelTs) (rs := pRdelRs) (t := fun a => pRdelT a.1 a.2) (fun a => by kernel_rfl)

abbrev pSbitTs : List Sh := [Sh.one R.bool, Sh.one (R.int IntKind.i64)]

abbrev pSbitRs : Rs := Rs.one (Sh.one (R.int IntKind.u8))

noncomputable def pSbitT (b : Bool) (n : Int) : RT (Option (Int)) :=
  .br (!b || decide (0 ≤ n))
  (.br (b)
   (.leaf (some (shlI IntKind.u8 1 n)))
   (.leaf (some (0))))
  (.leaf none)

noncomputable def pSbit (b : Bool) (n : Int) : Int := getO pSbitRs.dflt (pSbitT b n).val

noncomputable def pSbitC (b : Bool) (n : Int) : Bool := okB (pSbitT b n).val

noncomputable def pSbitE : Entry := pureE pSbitTs pSbitRs (fun a => some (pSbitC a.1 a.2)) (fun a => pSbit a.1 a.2)

theorem pSbit_ok : EntryOk Tryz.prog 279 pSbitE :=
  pure_part (P := Tryz.prog) (n := 31) (k := 8) (l := []) (ol := []) trivial Tryz.func279 rfl (by kernel_rfl) Tryz.call279 trivial (ts := pSbitTs) (rs := pSbitRs) (t := fun a => pSbitT a.1 a.2) (fun a => by kernel_rfl)

abbrev pRimTs : List Sh := [Sh.agg (R.pair (R.int IntKind.i64) (R.pair (R.pair (R.int IntKind.u8) (R.pair (R.int IntKind.u8) (R.pair (R.int IntKind.u8) (R.pair (R.int IntKind.u8) (R.pair (R.int IntKind.u8) (R.pair (R.int IntKind.u8) (R.pair (R.int IntKind.u8) (R.pair (R.pair R.bool (R.pair R.bool (R.pair R.bool (R.pair R.bool (R.pair R.bool (R.pair R.bool R.bool)))))) (R.pair (R.int IntKind.u16) (R.int IntKind.u16)))))))))) (R.pair R.bool (R.pair R.bool (R.pair R.bool (R.pair (R.int IntKind.u8) (R.pair R.bool (R.pair R.bool (R.pair R.bool (R.pair R.bool (R.pair R.bool (R.pair R.bool R.bool)))))))))))), Sh.agg (R.pair R.bool (R.pair R.bool (R.pair R.bool (R.pair R.bool (R.pair R.bool (R.pair R.bool (R.pair R.bool (R.pair R.bool R.bool))))))))]

abbrev pRimRs : Rs := Rs.tup [Sh.one (R.int IntKind.u8), Sh.agg (R.pair (R.int IntKind.i64) (R.pair (R.pair (R.int IntKind.u8) (R.pair (R.int IntKind.u8) (R.pair (R.int IntKind.u8) (R.pair (R.int IntKind.u8) (R.pair (R.int IntKind.u8) (R.pair (R.int IntKind.u8) (R.pair (R.int IntKind.u8) (R.pair (R.pair R.bool (R.pair R.bool (R.pair R.bool (R.pair R.bool (R.pair R.bool (R.pair R.bool R.bool)))))) (R.pair (R.int IntKind.u16) (R.int IntKind.u16)))))))))) (R.pair R.bool (R.pair R.bool (R.pair R.bool (R.pair (R.int IntKind.u8) (R.pair R.bool (R.pair R.bool (R.pair R.bool (R.pair R.bool (R.pair R.bool (R.pair R.bool R.bool))))))))))))]

noncomputable def pRimT (c : TC) (l : Bool × Bool × Bool × Bool × Bool × Bool × Bool × Bool × Bool) : RT (Option (Int × TC)) :=
  let x1 : Bool := bif c.2.2.2.2.2.2.2.2.2.2.1 then c.2.2.2.2.2.2.2.2.2.2.2.1 else c.2.2.1
  .br (!pSbitC l.2.2.2.1 7 || (!pSbitC c.2.2.2.2.2.2.2.1 6 || (!pSbitC l.2.2.2.2.2.2.1 5 || (!pSbitC l.2.2.2.2.2.2.2.1 4 || pSbitC x1 3))))
  (.br (!pSbitC l.2.2.2.1 7 || (!pSbitC c.2.2.2.2.2.2.2.1 6 || (!pSbitC l.2.2.2.2.2.2.1 5 || pSbitC l.2.2.2.2.2.2.2.1 4)))
   (.br (!pSbitC l.2.2.2.1 7 || (!pSbitC c.2.2.2.2.2.2.2.1 6 || pSbitC l.2.2.2.2.2.2.1 5))
    (.br (!pSbitC l.2.2.2.1 7 || pSbitC c.2.2.2.2.2.2.2.1 6)
     (.br (pSbitC l.2.2.2.1 7)
      (.leaf (some ((orI IntKind.u8 (orI IntKind.u8 (orI IntKind.u8 (orI IntKind.u8 (orI IntKind.u8 (pSbit l.2.2.2.1 7) (pSbit c.2.2.2.2.2.2.2.1 6)) (pSbit l.2.2.2.2.2.2.1 5)) (pSbit l.2.2.2.2.2.2.2.1 4)) (pSbit x1 3)) (andI IntKind.u8 c.2.2.2.2.2.1 7), c.1, c.2.1, c.2.2.1, c.2.2.2.1, c.2.2.2.2.1, c.2.2.2.2.2.1, c.2.2.2.2.2.2.1, c.2.2.2.2.2.2.2.1, c.2.2.2.2.2.2.2.2.1, c.2.2.2.2.2.2.2.2.2.1, false, false, c.2.2.2.2.2.2.2.2.2.2.2.2))))
      (.leaf none))
     (.leaf none))
    (.leaf none))
   (.leaf none))
  (.leaf none)

noncomputable def pRim (c : TC) (l : Bool × Bool × Bool × Bool × Bool × Bool × Bool × Bool × Bool) : Int × TC := getO pRimRs.dflt (pRimT c l).val

noncomputable def pRimC (c : TC) (l : Bool × Bool × Bool × Bool × Bool × Bool × Bool × Bool × Bool) : Bool := okB (pRimT c l).val

noncomputable def pRimE : Entry := pureE pRimTs pRimRs (fun a => some (pRimC a.1 a.2)) (fun a => pRim a.1 a.2)

theorem pRim_ok : EntryOk Tryz.prog 242 pRimE :=
  pure_part (P := Tryz.prog) (n := 255) (k := 8) (l := [(279, pSbitE)]) (ol := []) ⟨pSbit_ok, trivial⟩ Tryz.func242 rfl (by kernel_rfl) Tryz.call242 trivial (ts := pRimTs) (rs := pRimRs) (t := fun a => pRimT a.1 a.2) (fun a => by kernel_rfl)

abbrev pSimTs : List Sh := [Sh.agg (R.pair (R.int IntKind.i64) (R.pair (R.pair (R.int IntKind.u8) (R.pair (R.int IntKind.u8) (R.pair (R.int IntKind.u8) (R.pair (R.int IntKind.u8) (R.pair (R.int IntKind.u8) (R.pair (R.int IntKind.u8) (R.pair (R.int IntKind.u8) (R.pair (R.pair R.bool (R.pair R.bool (R.pair R.bool (R.pair R.bool (R.pair R.bool (R.pair R.bool R.bool)))))) (R.pair (R.int IntKind.u16) (R.int IntKind.u16)))))))))) (R.pair R.bool (R.pair R.bool (R.pair R.bool (R.pair (R.int IntKind.u8) (R.pair R.bool (R.pair R.bool (R.pair R.bool (R.pair R.bool (R.pair R.bool (R.pair R.bool R.bool)))))))))))), Sh.one (R.int IntKind.u8)]

abbrev pSimRs : Rs := Rs.one (Sh.agg (R.pair (R.int IntKind.i64) (R.pair (R.pair (R.int IntKind.u8) (R.pair (R.int IntKind.u8) (R.pair (R.int IntKind.u8) (R.pair (R.int IntKind.u8) (R.pair (R.int IntKind.u8) (R.pair (R.int IntKind.u8) (R.pair (R.int IntKind.u8) (R.pair (R.pair R.bool (R.pair R.bool (R.pair R.bool (R.pair R.bool (R.pair R.bool (R.pair R.bool R.bool)))))) (R.pair (R.int IntKind.u16) (R.int IntKind.u16)))))))))) (R.pair R.bool (R.pair R.bool (R.pair R.bool (R.pair (R.int IntKind.u8) (R.pair R.bool (R.pair R.bool (R.pair R.bool (R.pair R.bool (R.pair R.bool (R.pair R.bool R.bool)))))))))))))

noncomputable def pSimT (c : TC) (a : Int) : RT TC :=
  .leaf ((c.1, c.2.1, c.2.2.1, c.2.2.2.1, c.2.2.2.2.1, bif andI IntKind.u8 a 8 != 0 then andI IntKind.u8 a 7 else c.2.2.2.2.2.1, c.2.2.2.2.2.2.1, !andI IntKind.u8 a 16 != 0 && c.2.2.2.2.2.2.2.1, c.2.2.2.2.2.2.2.2.1, c.2.2.2.2.2.2.2.2.2.1, c.2.2.2.2.2.2.2.2.2.2.1, c.2.2.2.2.2.2.2.2.2.2.2.1, bif andI IntKind.u8 a 64 != 0 then andI IntKind.u8 a 128 != 0 else c.2.2.2.2.2.2.2.2.2.2.2.2))

noncomputable def pSim (c : TC) (a : Int) : TC := (pSimT c a).val

noncomputable def pSimE : Entry := pureE pSimTs pSimRs (fun _ => none) (fun a => pSim a.1 a.2)

theorem pSim_ok : EntryOk Tryz.prog 243 pSimE :=
  pure_tot (P := Tryz.prog) (n := 31) (k := 8) (l := []) (ol := []) trivial Tryz.func243 rfl (by kernel_rfl) Tryz.call243 trivial (ts := pSimTs) (rs := pSimRs) (t := fun a => pSimT a.1 a.2) (fun a => by kernel_rfl)

abbrev pHoldsTs : List Sh := [Sh.one (R.int IntKind.i64), Sh.agg (R.pair R.bool (R.pair R.bool (R.pair R.bool (R.pair R.bool (R.pair R.bool (R.pair R.bool R.bool))))))]

abbrev pHoldsRs : Rs := Rs.one (Sh.one R.bool)

noncomputable def pHoldsT (c : Int) (f : TF) : RT (Bool) :=
  .br (bif c == 0 then c == 0 else c == 1)
  (.leaf (f.2.1 == (c == 1)))
  (.br (bif c == 2 then c == 2 else c == 3)
   (.leaf (f.2.2.2.2.2.2 == (c == 3)))
   (.br (bif c == 4 then c == 4 else c == 5)
    (.leaf (f.2.2.2.2.1 == (c == 5)))
    (.br (bif c == 6 then c == 6 else c == 7)
     (.leaf (f.1 == (c == 7)))
     (.br (bif c == 8 then c == 8 else c == 9)
      (.leaf (f.2.2.1 == (c == 9)))
      (.br (c == 10)
       (.leaf f.2.2.2.2.2.1)
       (.leaf (c == 11)))))))

noncomputable def pHolds (c : Int) (f : TF) : Bool := (pHoldsT c f).val

noncomputable def pHoldsE : Entry := pureE pHoldsTs pHoldsRs (fun _ => none) (fun a => pHolds a.1 a.2)

theorem pHolds_ok : EntryOk Tryz.prog 293 pHoldsE :=
  pure_tot (P := Tryz.prog) (n := 70644700037215) (k := 8) (l := []) (ol := []) trivial Tryz.func293 rfl (by kernel_rfl) Tryz.call293 trivial (ts := pHoldsTs) (rs := pHoldsRs) (t := fun a => pHoldsT a.1 a.2) (fun a => by kernel_rfl)

abbrev pVectorTs : List Sh := [Sh.one (R.int IntKind.i64)]

abbrev pVectorRs : Rs := Rs.one (Sh.one (R.int IntKind.u16))

noncomputable def pVectorT (s : Int) : RT (Int) :=
  .br (s == 1)
  (.leaf (36))
  (.br (s == 2)
   (.leaf (60))
   (.br (s == 3)
    (.leaf (52))
    (.br (s == 4)
     (.leaf (44))
     (.leaf (0)))))

noncomputable def pVector (s : Int) : Int := (pVectorT s).val

noncomputable def pVectorE : Entry := pureE pVectorTs pVectorRs (fun _ => none) (fun a => pVector a)

theorem pVector_ok : EntryOk Tryz.prog 206 pVectorE :=
  pure_tot (P := Tryz.prog) (n := 1367) (k := 8) (l := []) (ol := []) trivial Tryz.func206 rfl (by kernel_rfl) Tryz.call206 trivial (ts := pVectorTs) (rs := pVectorRs) (t := fun a => pVectorT a) (fun a => by kernel_rfl)

abbrev pLaterTs : List Sh := [Sh.one (R.int IntKind.u8)]

abbrev pLaterRs : Rs := Rs.tup [Sh.agg (R.pair (R.int IntKind.i64) (R.pair (R.int IntKind.i64) (R.pair (R.int IntKind.i64) (R.pair (R.int IntKind.i64) (R.pair (R.int IntKind.i64) (R.pair (R.int IntKind.i64) (R.pair (R.int IntKind.i64) (R.int IntKind.i64)))))))), Sh.one R.bool]

noncomputable def pLaterT (op : Int) : RT (TI × Bool) :=
  .br (op == 8)
  (.leaf (((40, 1, 0, 0, 0, 0, 0, 0), true)))
  (.br (op == 16)
   (.leaf (((41, 1, 0, 0, 0, 0, 0, 0), true)))
   (.br (op == 24)
    (.leaf (((42, 1, 0, 0, 0, 0, 0, 0), true)))
    (.br (op == 32)
     (.leaf (((38, 1, 0, 0, 0, 0, 0, 0), true)))
     (.br (op == 40)
      (.leaf (((43, 2, 0, 0, 0, 0, 0, 0), true)))
      (.br (op == 48)
       (.leaf (((39, 1, 0, 0, 0, 0, 0, 0), true)))
       (.br (op == 56)
        (.leaf (((44, 2, 0, 0, 0, 0, 0, 0), true)))
        (.br (op == 203)
         (.leaf (((45, 1, 0, 0, 0, 0, 10, 0), true)))
         (.br (op == 217)
          (.leaf (((46, 1, 0, 0, 0, 0, 0, 0), true)))
          (.br (op == 221)
           (.leaf (((24, 3, 0, 0, 0, 0, 8, 0), true)))
           (.br (op == 237)
            (.leaf (((47, 1, 0, 0, 0, 0, 0, 0), true)))
            (.br (op == 253)
             (.leaf (((24, 3, 0, 0, 0, 0, 9, 0), true)))
             (.leaf (((0, 0, 0, 0, 0, 0, 0, 0), false))))))))))))))

noncomputable def pLater (op : Int) : TI × Bool := (pLaterT op).val

noncomputable def pLaterE : Entry := pureE pLaterTs pLaterRs (fun _ => none) (fun a => pLater a)

theorem pLater_ok : EntryOk Tryz.prog 220 pLaterE :=
  pure_tot (P := Tryz.prog) (n := 314146179375) (k := 8) (l := []) (ol := []) trivial Tryz.func220 rfl (by kernel_rfl) Tryz.call220 trivial (ts := pLaterTs) (rs := pLaterRs) (t := fun a => pLaterT a) (fun a => by kernel_rfl)

abbrev pEarlierTs : List Sh := [Sh.one (R.int IntKind.u8)]

abbrev pEarlierRs : Rs := Rs.tup [Sh.agg (R.pair (R.int IntKind.i64) (R.pair (R.int IntKind.i64) (R.pair (R.int IntKind.i64) (R.pair (R.int IntKind.i64) (R.pair (R.int IntKind.i64) (R.pair (R.int IntKind.i64) (R.pair (R.int IntKind.i64) (R.int IntKind.i64)))))))), Sh.one R.bool]

noncomputable def pEarlierT (op : Int) : RT (TI × Bool) :=
  .br (bif op == 0 then op == 0 else bif op == 8 then op == 8 else bif op == 16 then op == 16 else bif op == 24 then op == 24 else bif op == 32 then op == 32 else bif op == 40 then op == 40 else bif op == 48 then op == 48 else op == 56)
  (.leaf (((1, 1, 0, 0, 0, 0, 0, 0), true)))
  (.br (bif op == 195 then op == 195 else op == 203)
   (.leaf (((24, 3, 0, 0, 0, 0, 11, 0), true)))
   (.br (bif op == 201 then op == 201 else op == 217)
    (.leaf (((26, 1, 0, 0, 0, 0, 11, 0), true)))
    (.br (bif op == 205 then op == 205 else bif op == 221 then op == 221 else bif op == 237 then op == 237 else op == 253)
     (.leaf (((25, 3, 0, 0, 0, 0, 11, 0), true)))
     (.leaf (((0, 0, 0, 0, 0, 0, 0, 0), false))))))

noncomputable def pEarlier (op : Int) : TI × Bool := (pEarlierT op).val

noncomputable def pEarlierE : Entry := pureE pEarlierTs pEarlierRs (fun _ => none) (fun a => pEarlier a)

theorem pEarlier_ok : EntryOk Tryz.prog 221 pEarlierE :=
  pure_tot (P := Tryz.prog) (n := 8945711) (k := 8) (l := []) (ol := []) trivial Tryz.func221 rfl (by kernel_rfl) Tryz.call221 trivial (ts := pEarlierTs) (rs := pEarlierRs) (t := fun a => pEarlierT a) (fun a => by kernel_rfl)

abbrev pOlowTs : List Sh := [Sh.one (R.int IntKind.u8)]

abbrev pOlowRs : Rs := Rs.one (Sh.agg (R.pair (R.int IntKind.i64) (R.pair (R.int IntKind.i64) (R.pair (R.int IntKind.i64) (R.pair (R.int IntKind.i64) (R.pair (R.int IntKind.i64) (R.pair (R.int IntKind.i64) (R.pair (R.int IntKind.i64) (R.int IntKind.i64)))))))))

noncomputable def pOlowT (op : Int) : RT (Option TI) :=
  let x1 : Int × Int × Int × Int × Int × Int := (0, 0, IntKind.i64.wrap (andI IntKind.u8 (shrI IntKind.u8 op 4) 3), 0, 0, 0)
  let x2 : Int × Int × Int × Int × Int × Int × Int := (1, x1)
  let x3 : Bool := decide (IntKind.i64.wrap (andI IntKind.u8 (shrI IntKind.u8 op 3) 7) < 4) && andI IntKind.u8 op 8 != 0
  let x4 : Bool := decide (0 ≤ IntKind.i64.wrap (IntKind.i64.wrap (andI IntKind.u8 (shrI IntKind.u8 op 3) 7) - 4) ∧ IntKind.i64.wrap (IntKind.i64.wrap (andI IntKind.u8 (shrI IntKind.u8 op 3) 7) - 4) < 4)
  let x5 : Bool := IntKind.i64.wrap (IntKind.i64.wrap (andI IntKind.u8 (shrI IntKind.u8 op 3) 7) - 4) == 0
  let x6 : Bool := IntKind.i64.wrap (IntKind.i64.wrap (andI IntKind.u8 (shrI IntKind.u8 op 3) 7) - 4) == ↑(0 + 1)
  let x7 : Bool := IntKind.i64.wrap (IntKind.i64.wrap (andI IntKind.u8 (shrI IntKind.u8 op 3) 7) - 4) == ↑(0 + 1 + 1)
  let x8 : Int × Int × Int × Int × Int × Int := (IntKind.i64.wrap (andI IntKind.u8 (shrI IntKind.u8 op 3) 7), 0, 0, 0, 0, 0)
  let x9 : Int × Int × Int × Int × Int × Int × Int := (1, x8)
  .br (andI IntKind.u8 op 7 == 1)
  (.br (andI IntKind.u8 op 8 != 0)
   (.leaf (some ((18, x2))))
   (.leaf (some ((4, 3, x1)))))
  (.br (!andI IntKind.u8 op 7 == 2 || (x3 || (decide (IntKind.i64.wrap (andI IntKind.u8 (shrI IntKind.u8 op 3) 7) < 4) || x4)))
   (.br (andI IntKind.u8 op 7 == 2)
    (.br (x3)
     (.leaf (some ((9, x2))))
     (.br (decide (IntKind.i64.wrap (andI IntKind.u8 (shrI IntKind.u8 op 3) 7) < 4))
      (.leaf (some ((10, x2))))
      (.leaf (some ((bif x5 then 8 else bif x6 then 7 else bif x7 then 6 else 5, 3, 0, 0, 0, 0, 0, 0))))))
    (.br (andI IntKind.u8 op 7 == 3)
     (.br (andI IntKind.u8 op 8 != 0)
      (.leaf (some ((17, x2))))
      (.leaf (some ((16, x2)))))
     (.br (andI IntKind.u8 op 7 == 4)
      (.leaf (some ((14, x9))))
      (.br (andI IntKind.u8 op 7 == 5)
       (.leaf (some ((15, x9))))
       (.br (andI IntKind.u8 op 7 == 6)
        (.leaf (some ((3, 2, x8))))
        (.br (decide (IntKind.i64.wrap (andI IntKind.u8 (shrI IntKind.u8 op 3) 7) < 4))
         (.leaf (some ((23, 1, 0, 0, 0, IntKind.i64.wrap (andI IntKind.u8 (shrI IntKind.u8 op 3) 7), 0, 0))))
         (.br (x4)
          (.leaf (some ((bif x5 then 19 else bif x6 then 20 else bif x7 then 21 else 22, 1, 0, 0, 0, 0, 0, 0))))
          (.leaf none))))))))
   (.leaf none))

noncomputable def pOlow (op : Int) : Int × Int × Int × Int × Int × Int × Int × Int := getO pOlowRs.dflt (pOlowT op).val

noncomputable def pOlowC (op : Int) : Bool := okB (pOlowT op).val

noncomputable def pOlowE : Entry := pureE pOlowTs pOlowRs (fun a => some (pOlowC a)) (fun a => pOlow a)

theorem pOlow_ok : EntryOk Tryz.prog 222 pOlowE :=
  pure_part (P := Tryz.prog) (n := 614758941389750335) (k := 8) (l := []) (ol := []) trivial Tryz.func222 rfl (by kernel_rfl) Tryz.call222 trivial (ts := pOlowTs) (rs := pOlowRs) (t := fun a => pOlowT a) (fun a => by kernel_rfl)

abbrev pOhighTs : List Sh := [Sh.one (R.int IntKind.u8)]

abbrev pOhighRs : Rs := Rs.one (Sh.agg (R.pair (R.int IntKind.i64) (R.pair (R.int IntKind.i64) (R.pair (R.int IntKind.i64) (R.pair (R.int IntKind.i64) (R.pair (R.int IntKind.i64) (R.pair (R.int IntKind.i64) (R.pair (R.int IntKind.i64) (R.int IntKind.i64)))))))))

noncomputable def pOhighT (op : Int) : RT (Option TI) :=
  let x1 : Int × Int × Int × Int × Int × Int := (0, 0, 0, 0, IntKind.i64.wrap (andI IntKind.u8 (shrI IntKind.u8 op 3) 7), 0)
  let x2 : Int × Int × Int × Int × Int × Int × Int := (1, 0, 0, IntKind.i64.wrap (andI IntKind.u8 (shrI IntKind.u8 op 4) 3), 0, 0, 0)
  let x3 : Bool := andI IntKind.u8 op 7 == 2 || (!andI IntKind.u8 op 7 == 3 || (!decide (IntKind.i64.wrap (andI IntKind.u8 (shrI IntKind.u8 op 3) 7) < 4) || decide (0 ≤ IntKind.i64.wrap (IntKind.i64.wrap (andI IntKind.u8 (shrI IntKind.u8 op 3) 7) - 2) ∧ IntKind.i64.wrap (IntKind.i64.wrap (andI IntKind.u8 (shrI IntKind.u8 op 3) 7) - 2) < 2)))
  let x4 : Int × Int × Int × Int × Int × Int × Int := (3, x1)
  .br (andI IntKind.u8 op 7 == 0)
  (.leaf (some ((26, 1, x1))))
  (.br (andI IntKind.u8 op 7 == 1)
   (.br (!andI IntKind.u8 op 8 != 0)
    (.leaf (some ((31, x2))))
    (.br (IntKind.i64.wrap (andI IntKind.u8 (shrI IntKind.u8 op 3) 7) == 5)
     (.leaf (some ((28, 1, 0, 0, 0, 0, 0, 0))))
     (.leaf (some ((29, 1, 0, 0, 0, 0, 0, 0))))))
   (.br (!x3 || (andI IntKind.u8 op 7 == 2 || (!andI IntKind.u8 op 7 == 3 || (decide (IntKind.i64.wrap (andI IntKind.u8 (shrI IntKind.u8 op 3) 7) < 4) || decide (0 ≤ IntKind.i64.wrap (IntKind.i64.wrap (andI IntKind.u8 (shrI IntKind.u8 op 3) 7) - 4) ∧ IntKind.i64.wrap (IntKind.i64.wrap (andI IntKind.u8 (shrI IntKind.u8 op 3) 7) - 4) < 4)))))
    (.br (x3)
     (.br (andI IntKind.u8 op 7 == 2)
      (.leaf (some ((24, x4))))
      (.br (andI IntKind.u8 op 7 == 3)
       (.br (decide (IntKind.i64.wrap (andI IntKind.u8 (shrI IntKind.u8 op 3) 7) < 4))
        (.leaf (some ((bif IntKind.i64.wrap (IntKind.i64.wrap (andI IntKind.u8 (shrI IntKind.u8 op 3) 7) - 2) == 0 then 34 else 33, 2, 0, 0, 0, 0, 0, 0))))
        (.leaf (some ((bif IntKind.i64.wrap (IntKind.i64.wrap (andI IntKind.u8 (shrI IntKind.u8 op 3) 7) - 4) == 0 then 32 else bif IntKind.i64.wrap (IntKind.i64.wrap (andI IntKind.u8 (shrI IntKind.u8 op 3) 7) - 4) == ↑(0 + 1) then 11 else bif IntKind.i64.wrap (IntKind.i64.wrap (andI IntKind.u8 (shrI IntKind.u8 op 3) 7) - 4) == ↑(0 + 1 + 1) then 36 else 35, 1, 0, 0, 0, 0, 0, 0)))))
       (.br (andI IntKind.u8 op 7 == 4)
        (.leaf (some ((25, x4))))
        (.br (andI IntKind.u8 op 7 == 5)
         (.leaf (some ((30, x2))))
         (.br (andI IntKind.u8 op 7 == 6)
          (.leaf (some ((13, 2, 0, 0, 0, IntKind.i64.wrap (andI IntKind.u8 (shrI IntKind.u8 op 3) 7), 0, 0))))
          (.leaf (some ((27, 1, 0, 0, 0, 0, 0, IntKind.i64.wrap (andI IntKind.u8 (shrI IntKind.u8 op 3) 7))))))))))
     (.leaf none))
    (.leaf none)))

noncomputable def pOhigh (op : Int) : Int × Int × Int × Int × Int × Int × Int × Int := getO pOhighRs.dflt (pOhighT op).val

noncomputable def pOhighC (op : Int) : Bool := okB (pOhighT op).val

noncomputable def pOhighE : Entry := pureE pOhighTs pOhighRs (fun a => some (pOhighC a)) (fun a => pOhigh a)

theorem pOhigh_ok : EntryOk Tryz.prog 223 pOhighE :=
  pure_part (P := Tryz.prog) (n := 614741495173873727) (k := 8) (l := []) (ol := []) trivial Tryz.func223 rfl (by kernel_rfl) Tryz.call223 trivial (ts := pOhighTs) (rs := pOhighRs) (t := fun a => pOhighT a) (fun a => by kernel_rfl)

abbrev pDecodeTs : List Sh := [Sh.one (R.int IntKind.i64), Sh.one (R.int IntKind.u8)]

abbrev pDecodeRs : Rs := Rs.one (Sh.agg (R.pair (R.int IntKind.i64) (R.pair (R.int IntKind.i64) (R.pair (R.int IntKind.i64) (R.pair (R.int IntKind.i64) (R.pair (R.int IntKind.i64) (R.pair (R.int IntKind.i64) (R.pair (R.int IntKind.i64) (R.int IntKind.i64)))))))))

noncomputable def pDecodeT (chip : Int) (op : Int) : RT (Option TI) :=
  let x1 : Int × Int × Int × Int × Int × Int × Int × Int := (37, 1, 0, 0, 0, 0, 0, 0)
  let x2 : Int × Int × Int × Int × Int × Int × Int × Int := (2, 1, IntKind.i64.wrap (andI IntKind.u8 (shrI IntKind.u8 op 3) 7), IntKind.i64.wrap (andI IntKind.u8 op 7), 0, 0, 0, 0)
  let x3 : Int × Int × Int × Int × Int × Int × Int × Int := (12, 1, 0, IntKind.i64.wrap (andI IntKind.u8 op 7), 0, IntKind.i64.wrap (andI IntKind.u8 (shrI IntKind.u8 op 3) 7), 0, 0)
  .br (chip == 2)
  (.br (pLater op).2
   (.leaf (some (pLater op).1))
   (.br (pEarlier op).2
    (.leaf (some (pEarlier op).1))
    (.br (!shrI IntKind.u8 op 6 == 0 || pOlowC op)
     (.br (shrI IntKind.u8 op 6 == 0)
      (.leaf (some (pOlow op)))
      (.br (shrI IntKind.u8 op 6 == 1)
       (.br (op == 118)
        (.leaf (some (x1)))
        (.leaf (some (x2))))
       (.br (shrI IntKind.u8 op 6 == 2)
        (.leaf (some (x3)))
        (.br (pOhighC op)
         (.leaf (some (pOhigh op)))
         (.leaf none)))))
     (.leaf none))))
  (.br (pEarlier op).2
   (.leaf (some (pEarlier op).1))
   (.br (!shrI IntKind.u8 op 6 == 0 || pOlowC op)
    (.br (shrI IntKind.u8 op 6 == 0)
     (.leaf (some (pOlow op)))
     (.br (shrI IntKind.u8 op 6 == 1)
      (.br (op == 118)
       (.leaf (some (x1)))
       (.leaf (some (x2))))
      (.br (shrI IntKind.u8 op 6 == 2)
       (.leaf (some (x3)))
       (.br (pOhighC op)
        (.leaf (some (pOhigh op)))
        (.leaf none)))))
    (.leaf none)))

noncomputable def pDecode (chip : Int) (op : Int) : Int × Int × Int × Int × Int × Int × Int × Int := getO pDecodeRs.dflt (pDecodeT chip op).val

noncomputable def pDecodeC (chip : Int) (op : Int) : Bool := okB (pDecodeT chip op).val

noncomputable def pDecodeE : Entry := pureE pDecodeTs pDecodeRs (fun a => some (pDecodeC a.1 a.2)) (fun a => pDecode a.1 a.2)

theorem pDecode_ok : EntryOk Tryz.prog 178 pDecodeE :=
  pure_part (P := Tryz.prog) (n := 17594467746303) (k := 8) (l := [(220, pLaterE), (221, pEarlierE), (222, pOlowE), (223, pOhighE)]) (ol := []) ⟨pLater_ok, pEarlier_ok, pOlow_ok, pOhigh_ok, trivial⟩ Tryz.func178 rfl (by kernel_rfl) Tryz.call178 trivial (ts := pDecodeTs) (rs := pDecodeRs) (t := fun a => pDecodeT a.1 a.2) (fun a => by kernel_rfl)

abbrev rOnTs : List Sh := [Sh.one (R.int IntKind.i64)]

abbrev rOnRs : Rs := Rs.one (Sh.one R.bool)

noncomputable def rOnT (chip : Int) : RT (Bool) :=
  .leaf (chip == 2)

noncomputable def rOn (chip : Int) : Bool := (rOnT chip).val

noncomputable def rOnE : Entry := pureE rOnTs rOnRs (fun _ => none) (fun a => rOn a)

theorem rOn_ok : EntryOk Tryz.prog 68 rOnE :=
  pure_tot (P := Tryz.prog) (n := 7) (k := 8) (l := []) (ol := []) trivial Tryz.func68 rfl (by kernel_rfl) Tryz.call68 trivial (ts := rOnTs) (rs := rOnRs) (t := fun a => rOnT a) (fun a => by kernel_rfl)

abbrev rParityTs : List Sh := [Sh.one (R.int IntKind.u8)]

abbrev rParityRs : Rs := Rs.one (Sh.one R.bool)

noncomputable def rParityT (b : Int) : RT (Bool) :=
  let x1 : Int := IntKind.i64.wrap (IntKind.i64.wrap (IntKind.i64.wrap (IntKind.i64.wrap (0 + 1) + 1) + 1) + 1)
  let x2 : Int := IntKind.i64.wrap (x1 + 1)
  let x3 : Int := IntKind.i64.wrap (x2 + 1)
  let x4 : Bool := bif andI IntKind.u8 (shrI IntKind.u8 b (IntKind.i64.wrap (0 + 1))) 1 == 1 then !!andI IntKind.u8 (shrI IntKind.u8 b 0) 1 == 1 else !andI IntKind.u8 (shrI IntKind.u8 b 0) 1 == 1
  let x5 : Bool := bif andI IntKind.u8 (shrI IntKind.u8 b (IntKind.i64.wrap (IntKind.i64.wrap (0 + 1) + 1))) 1 == 1 then !x4 else x4
  let x6 : Bool := bif andI IntKind.u8 (shrI IntKind.u8 b (IntKind.i64.wrap (IntKind.i64.wrap (IntKind.i64.wrap (0 + 1) + 1) + 1))) 1 == 1 then !x5 else x5
  let x7 : Bool := bif andI IntKind.u8 (shrI IntKind.u8 b x1) 1 == 1 then !x6 else x6
  let x8 : Bool := bif andI IntKind.u8 (shrI IntKind.u8 b x2) 1 == 1 then !x7 else x7
  let x9 : Bool := bif andI IntKind.u8 (shrI IntKind.u8 b x3) 1 == 1 then !x8 else x8
  .leaf (bif andI IntKind.u8 (shrI IntKind.u8 b (IntKind.i64.wrap (x3 + 1))) 1 == 1 then !x9 else x9)

noncomputable def rParity (b : Int) : Bool := (rParityT b).val

noncomputable def rParityE : Entry := pureE rParityTs rParityRs (fun _ => none) (fun a => rParity a)

theorem rParity_ok : EntryOk Tryz.prog 186 rParityE :=
  pure_tot (P := Tryz.prog) (n := 31) (k := 10) (l := []) (ol := []) trivial Tryz.func186 rfl (by kernel_rfl) Tryz.call186 trivial (ts := rParityTs) (rs := rParityRs) (t := fun a => rParityT a) (fun a => by kernel_rfl)

abbrev rMajTs : List Sh := [Sh.one R.bool, Sh.one R.bool, Sh.one R.bool]

abbrev rMajRs : Rs := Rs.one (Sh.one R.bool)

noncomputable def rMajT (a : Bool) (b : Bool) (c : Bool) : RT (Bool) :=
  .leaf (bif a then b || bif a then c || b && c else b && c else bif a then c || b && c else b && c)

noncomputable def rMaj (a : Bool) (b : Bool) (c : Bool) : Bool := (rMajT a b c).val

noncomputable def rMajE : Entry := pureE rMajTs rMajRs (fun _ => none) (fun a => rMaj a.1 a.2.1 a.2.2)

theorem rMaj_ok : EntryOk Tryz.prog 184 rMajE :=
  pure_tot (P := Tryz.prog) (n := 127) (k := 8) (l := []) (ol := []) trivial Tryz.func184 rfl (by kernel_rfl) Tryz.call184 trivial (ts := rMajTs) (rs := rMajRs) (t := fun a => rMajT a.1 a.2.1 a.2.2) (fun a => by kernel_rfl)

abbrev rOneTs : List Sh := [Sh.one R.bool]

abbrev rOneRs : Rs := Rs.one (Sh.one (R.int IntKind.i64))

noncomputable def rOneT (b : Bool) : RT (Int) :=
  .br (b)
  (.leaf (1))
  (.leaf (0))

noncomputable def rOne (b : Bool) : Int := (rOneT b).val

noncomputable def rOneE : Entry := pureE rOneTs rOneRs (fun _ => none) (fun a => rOne a)

theorem rOne_ok : EntryOk Tryz.prog 82 rOneE :=
  pure_tot (P := Tryz.prog) (n := 7) (k := 8) (l := []) (ol := []) trivial Tryz.func82 rfl (by kernel_rfl) Tryz.call82 trivial (ts := rOneTs) (rs := rOneRs) (t := fun a => rOneT a) (fun a => by kernel_rfl)

abbrev rSignedTs : List Sh := [Sh.one (R.int IntKind.u8)]

abbrev rSignedRs : Rs := Rs.one (Sh.one (R.int IntKind.i64))

noncomputable def rSignedT (n : Int) : RT (Int) :=
  .leaf (IntKind.i64.wrap (IntKind.i8.wrap n))

noncomputable def rSigned (n : Int) : Int := (rSignedT n).val

noncomputable def rSignedE : Entry := pureE rSignedTs rSignedRs (fun _ => none) (fun a => rSigned a)

theorem rSigned_ok : EntryOk Tryz.prog 224 rSignedE :=
  pure_tot (P := Tryz.prog) (n := 7) (k := 8) (l := []) (ol := []) trivial Tryz.func224 rfl (by kernel_rfl) Tryz.call224 trivial (ts := rSignedTs) (rs := rSignedRs) (t := fun a => rSignedT a) (fun a => by kernel_rfl)

abbrev rSumTs : List Sh := [Sh.one (R.int IntKind.u8), Sh.one (R.int IntKind.u8), Sh.one R.bool]

abbrev rSumRs : Rs := Rs.tup [Sh.one (R.int IntKind.u8), Sh.one R.bool, Sh.one R.bool, Sh.one R.bool]

noncomputable def rSumT (a : Int) (b : Int) (c : Bool) : RT (Int × Bool × Bool × Bool) :=
  let x1 : Bool := decide (IntKind.i64.wrap (IntKind.i64.wrap (rSigned a + rSigned b) + rOne c) < -128)
  let x2 : Int := IntKind.i64.wrap (IntKind.i64.wrap (IntKind.i64.wrap a + IntKind.i64.wrap b) + rOne c)
  let x3 : Int := IntKind.u8.wrap x2
  let x4 : Bool := decide (x2 > 255)
  let x5 : Bool := decide (IntKind.i64.wrap (IntKind.i64.wrap (IntKind.i64.wrap (andI IntKind.u8 a 15) + IntKind.i64.wrap (andI IntKind.u8 b 15)) + rOne c) > 15)
  .leaf ((bif x1 then x3 else x3, bif x1 then x4 else x4, bif x1 then x5 else x5, x1 || decide (IntKind.i64.wrap (IntKind.i64.wrap (rSigned a + rSigned b) + rOne c) > 127)))

noncomputable def rSum (a : Int) (b : Int) (c : Bool) : Int × Bool × Bool × Bool := (rSumT a b c).val

noncomputable def rSumE : Entry := pureE rSumTs rSumRs (fun _ => none) (fun a => rSum a.1 a.2.1 a.2.2)

theorem rSum_ok : EntryOk Tryz.prog 180 rSumE :=
  pure_tot (P := Tryz.prog) (n := 8191) (k := 8) (l := [(82, rOneE), (224, rSignedE)]) (ol := []) ⟨rOne_ok, rSigned_ok, trivial⟩ Tryz.func180 rfl (by kernel_rfl) Tryz.call180 trivial (ts := rSumTs) (rs := rSumRs) (t := fun a => rSumT a.1 a.2.1 a.2.2) (fun a => by kernel_rfl)

abbrev rDiffTs : List Sh := [Sh.one (R.int IntKind.u8), Sh.one (R.int IntKind.u8), Sh.one R.bool]

abbrev rDiffRs : Rs := Rs.tup [Sh.one (R.int IntKind.u8), Sh.one R.bool, Sh.one R.bool, Sh.one R.bool]

noncomputable def rDiffT (a : Int) (b : Int) (c : Bool) : RT (Int × Bool × Bool × Bool) :=
  let x1 : Bool := decide (IntKind.i64.wrap (IntKind.i64.wrap (rSigned a - rSigned b) - rOne c) < -128)
  let x2 : Int := IntKind.i64.wrap (IntKind.i64.wrap (IntKind.i64.wrap a - IntKind.i64.wrap b) - rOne c)
  let x3 : Int := IntKind.u8.wrap x2
  let x4 : Bool := decide (x2 < 0)
  let x5 : Bool := decide (IntKind.i64.wrap (IntKind.i64.wrap (IntKind.i64.wrap (IntKind.i64.wrap (andI IntKind.u8 a 15) + IntKind.i64.wrap (IntKind.u8.wrap (15 - andI IntKind.u8 b 15))) + 1) - rOne c) > 15)
  .leaf ((bif x1 then x3 else x3, bif x1 then x4 else x4, bif x1 then x5 else x5, x1 || decide (IntKind.i64.wrap (IntKind.i64.wrap (rSigned a - rSigned b) - rOne c) > 127)))

noncomputable def rDiff (a : Int) (b : Int) (c : Bool) : Int × Bool × Bool × Bool := (rDiffT a b c).val

noncomputable def rDiffE : Entry := pureE rDiffTs rDiffRs (fun _ => none) (fun a => rDiff a.1 a.2.1 a.2.2)

theorem rDiff_ok : EntryOk Tryz.prog 181 rDiffE :=
  pure_tot (P := Tryz.prog) (n := 8191) (k := 8) (l := [(82, rOneE), (224, rSignedE)]) (ol := []) ⟨rOne_ok, rSigned_ok, trivial⟩ Tryz.func181 rfl (by kernel_rfl) Tryz.call181 trivial (ts := rDiffTs) (rs := rDiffRs) (t := fun a => rDiffT a.1 a.2.1 a.2.2) (fun a => by kernel_rfl)

abbrev rJoinTs : List Sh := [Sh.one (R.int IntKind.u8), Sh.one (R.int IntKind.u8)]

abbrev rJoinRs : Rs := Rs.one (Sh.one (R.int IntKind.u16))

noncomputable def rJoinT (h : Int) (l : Int) : RT (Int) :=
  .leaf (orI IntKind.u16 (shlI IntKind.u16 (IntKind.u16.wrap h) 8) (IntKind.u16.wrap l))

noncomputable def rJoin (h : Int) (l : Int) : Int := (rJoinT h l).val

noncomputable def rJoinE : Entry := pureE rJoinTs rJoinRs (fun _ => none) (fun a => rJoin a.1 a.2)

theorem rJoin_ok : EntryOk Tryz.prog 119 rJoinE :=
  pure_tot (P := Tryz.prog) (n := 31) (k := 8) (l := []) (ol := []) trivial Tryz.func119 rfl (by kernel_rfl) Tryz.call119 trivial (ts := rJoinTs) (rs := rJoinRs) (t := fun a => rJoinT a.1 a.2) (fun a => by kernel_rfl)

abbrev rBitTs : List Sh := [Sh.one R.bool, Sh.one (R.int IntKind.i64)]

abbrev rBitRs : Rs := Rs.one (Sh.one (R.int IntKind.u8))

noncomputable def rBitT (b : Bool) (n : Int) : RT (Option (Int)) :=
  .br (!b || decide (0 ≤ n))
  (.br (b)
   (.leaf (some (shlI IntKind.u8 1 n)))
   (.leaf (some (0))))
  (.leaf none)

noncomputable def rBit (b : Bool) (n : Int) : Int := getO rBitRs.dflt (rBitT b n).val

noncomputable def rBitC (b : Bool) (n : Int) : Bool := okB (rBitT b n).val

noncomputable def rBitE : Entry := pureE rBitTs rBitRs (fun a => some (rBitC a.1 a.2)) (fun a => rBit a.1 a.2)

theorem rBit_ok : EntryOk Tryz.prog 185 rBitE :=
  pure_part (P := Tryz.prog) (n := 31) (k := 8) (l := []) (ol := []) trivial Tryz.func185 rfl (by kernel_rfl) Tryz.call185 trivial (ts := rBitTs) (rs := rBitRs) (t := fun a => rBitT a.1 a.2) (fun a => by kernel_rfl)

abbrev rPackTs : List Sh := [Sh.one (R.int IntKind.i64), Sh.agg (R.pair R.bool (R.pair R.bool (R.pair R.bool (R.pair R.bool (R.pair R.bool (R.pair R.bool R.bool))))))]

abbrev rPackRs : Rs := Rs.one (Sh.one (R.int IntKind.u8))

noncomputable def rPackT (chip : Int) (f : TF) : RT (Option (Int)) :=
  let x1 : Int := orI IntKind.u8 (orI IntKind.u8 (orI IntKind.u8 (orI IntKind.u8 (rBit f.1 7) (rBit f.2.1 6)) (rBit f.2.2.2.1 4)) (rBit f.2.2.2.2.1 2)) (rBit f.2.2.2.2.2.2 0)
  .br (!rBitC f.1 7 || (!rBitC f.2.1 6 || (!rBitC f.2.2.2.1 4 || (!rBitC f.2.2.2.2.1 2 || rBitC f.2.2.2.2.2.2 0))))
  (.br (!rBitC f.1 7 || (!rBitC f.2.1 6 || (!rBitC f.2.2.2.1 4 || rBitC f.2.2.2.2.1 2)))
   (.br (!rBitC f.1 7 || (!rBitC f.2.1 6 || rBitC f.2.2.2.1 4))
    (.br (!rBitC f.1 7 || rBitC f.2.1 6)
     (.br (rBitC f.1 7)
      (.br (!rOn chip || (!rBitC f.2.2.1 5 || rBitC f.2.2.2.2.2.1 1))
       (.br (!rOn chip || rBitC f.2.2.1 5)
        (.br (rOn chip)
         (.leaf (some (orI IntKind.u8 (orI IntKind.u8 x1 (rBit f.2.2.1 5)) (rBit f.2.2.2.2.2.1 1))))
         (.leaf (some (orI IntKind.u8 x1 2))))
        (.leaf none))
       (.leaf none))
      (.leaf none))
     (.leaf none))
    (.leaf none))
   (.leaf none))
  (.leaf none)

noncomputable def rPack (chip : Int) (f : TF) : Int := getO rPackRs.dflt (rPackT chip f).val

noncomputable def rPackC (chip : Int) (f : TF) : Bool := okB (rPackT chip f).val

noncomputable def rPackE : Entry := pureE rPackTs rPackRs (fun a => some (rPackC a.1 a.2)) (fun a => rPack a.1 a.2)

theorem rPack_ok : EntryOk Tryz.prog 171 rPackE :=
  pure_part (P := Tryz.prog) (n := 63) (k := 8) (l := [(68, rOnE), (185, rBitE)]) (ol := []) ⟨rOn_ok, rBit_ok, trivial⟩ Tryz.func171 rfl (by kernel_rfl) Tryz.call171 trivial (ts := rPackTs) (rs := rPackRs) (t := fun a => rPackT a.1 a.2) (fun a => by kernel_rfl)

abbrev rUnpackTs : List Sh := [Sh.one (R.int IntKind.i64), Sh.one (R.int IntKind.u8)]

abbrev rUnpackRs : Rs := Rs.one (Sh.agg (R.pair R.bool (R.pair R.bool (R.pair R.bool (R.pair R.bool (R.pair R.bool (R.pair R.bool R.bool)))))))

noncomputable def rUnpackT (chip : Int) (b : Int) : RT TF :=
  .leaf ((andI IntKind.u8 b 128 != 0, andI IntKind.u8 b 64 != 0, rOn chip && andI IntKind.u8 b 32 != 0, andI IntKind.u8 b 16 != 0, andI IntKind.u8 b 4 != 0, rOn chip && andI IntKind.u8 b 2 != 0, andI IntKind.u8 b 1 != 0))

noncomputable def rUnpack (chip : Int) (b : Int) : TF := (rUnpackT chip b).val

noncomputable def rUnpackE : Entry := pureE rUnpackTs rUnpackRs (fun _ => none) (fun a => rUnpack a.1 a.2)

theorem rUnpack_ok : EntryOk Tryz.prog 179 rUnpackE :=
  pure_tot (P := Tryz.prog) (n := 63) (k := 8) (l := [(68, rOnE)]) (ol := []) ⟨rOn_ok, trivial⟩ Tryz.func179 rfl (by kernel_rfl) Tryz.call179 trivial (ts := rUnpackTs) (rs := rUnpackRs) (t := fun a => rUnpackT a.1 a.2) (fun a => by kernel_rfl)

abbrev rOfTs : List Sh := [Sh.one (R.int IntKind.u8)]

abbrev rOfRs : Rs := Rs.one (Sh.agg (R.pair R.bool (R.pair R.bool (R.pair R.bool (R.pair R.bool (R.pair R.bool (R.pair R.bool R.bool)))))))

noncomputable def rOfT (r : Int) : RT TF :=
  .leaf ((decide (r ≥ 128), r == 0, false, false, rParity r, false, false))

noncomputable def rOf (r : Int) : TF := (rOfT r).val

noncomputable def rOfE : Entry := pureE rOfTs rOfRs (fun _ => none) (fun a => rOf a)

theorem rOf_ok : EntryOk Tryz.prog 182 rOfE :=
  pure_tot (P := Tryz.prog) (n := 7) (k := 8) (l := [(186, rParityE)]) (ol := []) ⟨rParity_ok, trivial⟩ Tryz.func182 rfl (by kernel_rfl) Tryz.call182 trivial (ts := rOfTs) (rs := rOfRs) (t := fun a => rOfT a) (fun a => by kernel_rfl)

abbrev rOnlyTs : List Sh := [Sh.one (R.int IntKind.i64), Sh.agg (R.pair R.bool (R.pair R.bool (R.pair R.bool (R.pair R.bool (R.pair R.bool (R.pair R.bool R.bool)))))), Sh.one R.bool, Sh.one R.bool]

abbrev rOnlyRs : Rs := Rs.one (Sh.agg (R.pair R.bool (R.pair R.bool (R.pair R.bool (R.pair R.bool (R.pair R.bool (R.pair R.bool R.bool)))))))

noncomputable def rOnlyT (chip : Int) (f : TF) (k : Bool) (v : Bool) : RT TF :=
  .leaf ((f.1, f.2.1, rOn chip && bif rOn chip then k else k, f.2.2.2.1, f.2.2.2.2.1, bif rOn chip then rOn chip && v else rOn chip && v, f.2.2.2.2.2.2))

noncomputable def rOnly (chip : Int) (f : TF) (k : Bool) (v : Bool) : TF := (rOnlyT chip f k v).val

noncomputable def rOnlyE : Entry := pureE rOnlyTs rOnlyRs (fun _ => none) (fun a => rOnly a.1 a.2.1 a.2.2.1 a.2.2.2)

theorem rOnly_ok : EntryOk Tryz.prog 183 rOnlyE :=
  pure_tot (P := Tryz.prog) (n := 511) (k := 8) (l := [(68, rOnE)]) (ol := []) ⟨rOn_ok, trivial⟩ Tryz.func183 rfl (by kernel_rfl) Tryz.call183 trivial (ts := rOnlyTs) (rs := rOnlyRs) (t := fun a => rOnlyT a.1 a.2.1 a.2.2.1 a.2.2.2) (fun a => by kernel_rfl)

abbrev rGetTs : List Sh := [Sh.agg (R.pair (R.int IntKind.u8) (R.pair (R.int IntKind.u8) (R.pair (R.int IntKind.u8) (R.pair (R.int IntKind.u8) (R.pair (R.int IntKind.u8) (R.pair (R.int IntKind.u8) (R.pair (R.int IntKind.u8) (R.pair (R.pair R.bool (R.pair R.bool (R.pair R.bool (R.pair R.bool (R.pair R.bool (R.pair R.bool R.bool)))))) (R.pair (R.int IntKind.u16) (R.int IntKind.u16)))))))))), Sh.one (R.int IntKind.i64)]

abbrev rGetRs : Rs := Rs.one (Sh.one (R.int IntKind.u8))

noncomputable def rGetT (r : TR) (n : Int) : RT (Option (Int)) :=
  .br (decide (0 ≤ andI IntKind.i64 n 7 ∧ andI IntKind.i64 n 7 < 8))
  (.leaf (some (bif andI IntKind.i64 n 7 == 0 then r.2.1 else bif andI IntKind.i64 n 7 == ↑(0 + 1) then r.2.2.1 else bif andI IntKind.i64 n 7 == ↑(0 + 1 + 1) then r.2.2.2.1 else bif andI IntKind.i64 n 7 == ↑(0 + 1 + 1 + 1) then r.2.2.2.2.1 else bif andI IntKind.i64 n 7 == ↑(0 + 1 + 1 + 1 + 1) then r.2.2.2.2.2.1 else bif andI IntKind.i64 n 7 == ↑(0 + 1 + 1 + 1 + 1 + 1) then r.2.2.2.2.2.2.1 else bif andI IntKind.i64 n 7 == ↑(0 + 1 + 1 + 1 + 1 + 1 + 1) then 0 else r.1)))
  (.leaf none)

noncomputable def rGet (r : TR) (n : Int) : Int := getO rGetRs.dflt (rGetT r n).val

noncomputable def rGetC (r : TR) (n : Int) : Bool := okB (rGetT r n).val

noncomputable def rGetE : Entry := pureE rGetTs rGetRs (fun a => some (rGetC a.1 a.2)) (fun a => rGet a.1 a.2)

theorem rGet_ok : EntryOk Tryz.prog 110 rGetE :=
  pure_part (P := Tryz.prog) (n := 31) (k := 8) (l := []) (ol := []) trivial Tryz.func110 rfl (by kernel_rfl) Tryz.call110 trivial (ts := rGetTs) (rs := rGetRs) (t := fun a => rGetT a.1 a.2) (fun a => by kernel_rfl)

abbrev rSetTs : List Sh := [Sh.agg (R.pair (R.int IntKind.u8) (R.pair (R.int IntKind.u8) (R.pair (R.int IntKind.u8) (R.pair (R.int IntKind.u8) (R.pair (R.int IntKind.u8) (R.pair (R.int IntKind.u8) (R.pair (R.int IntKind.u8) (R.pair (R.pair R.bool (R.pair R.bool (R.pair R.bool (R.pair R.bool (R.pair R.bool (R.pair R.bool R.bool)))))) (R.pair (R.int IntKind.u16) (R.int IntKind.u16)))))))))), Sh.one (R.int IntKind.i64), Sh.one (R.int IntKind.u8)]

abbrev rSetRs : Rs := Rs.one (Sh.agg (R.pair (R.int IntKind.u8) (R.pair (R.int IntKind.u8) (R.pair (R.int IntKind.u8) (R.pair (R.int IntKind.u8) (R.pair (R.int IntKind.u8) (R.pair (R.int IntKind.u8) (R.pair (R.int IntKind.u8) (R.pair (R.pair R.bool (R.pair R.bool (R.pair R.bool (R.pair R.bool (R.pair R.bool (R.pair R.bool R.bool)))))) (R.pair (R.int IntKind.u16) (R.int IntKind.u16)))))))))))

noncomputable def rSetT (r : TR) (n : Int) (v : Int) : RT TR :=
  .leaf ((bif andI IntKind.i64 n 7 == 0 then r.1 else bif andI IntKind.i64 n 7 == 1 then r.1 else bif andI IntKind.i64 n 7 == 2 then r.1 else bif andI IntKind.i64 n 7 == 3 then r.1 else bif andI IntKind.i64 n 7 == 4 then r.1 else bif andI IntKind.i64 n 7 == 5 then r.1 else bif andI IntKind.i64 n 7 == 7 then v else r.1, bif andI IntKind.i64 n 7 == 0 then v else r.2.1, bif andI IntKind.i64 n 7 == 0 then r.2.2.1 else bif andI IntKind.i64 n 7 == 1 then v else r.2.2.1, bif andI IntKind.i64 n 7 == 0 then r.2.2.2.1 else bif andI IntKind.i64 n 7 == 1 then r.2.2.2.1 else bif andI IntKind.i64 n 7 == 2 then v else r.2.2.2.1, bif andI IntKind.i64 n 7 == 0 then r.2.2.2.2.1 else bif andI IntKind.i64 n 7 == 1 then r.2.2.2.2.1 else bif andI IntKind.i64 n 7 == 2 then r.2.2.2.2.1 else bif andI IntKind.i64 n 7 == 3 then v else r.2.2.2.2.1, bif andI IntKind.i64 n 7 == 0 then r.2.2.2.2.2.1 else bif andI IntKind.i64 n 7 == 1 then r.2.2.2.2.2.1 else bif andI IntKind.i64 n 7 == 2 then r.2.2.2.2.2.1 else bif andI IntKind.i64 n 7 == 3 then r.2.2.2.2.2.1 else bif andI IntKind.i64 n 7 == 4 then v else r.2.2.2.2.2.1, bif andI IntKind.i64 n 7 == 0 then r.2.2.2.2.2.2.1 else bif andI IntKind.i64 n 7 == 1 then r.2.2.2.2.2.2.1 else bif andI IntKind.i64 n 7 == 2 then r.2.2.2.2.2.2.1 else bif andI IntKind.i64 n 7 == 3 then r.2.2.2.2.2.2.1 else bif andI IntKind.i64 n 7 == 4 then r.2.2.2.2.2.2.1 else bif andI IntKind.i64 n 7 == 5 then v else r.2.2.2.2.2.2.1, r.2.2.2.2.2.2.2))

noncomputable def rSet (r : TR) (n : Int) (v : Int) : TR := (rSetT r n v).val

noncomputable def rSetE : Entry := pureE rSetTs rSetRs (fun _ => none) (fun a => rSet a.1 a.2.1 a.2.2)

theorem rSet_ok : EntryOk Tryz.prog 135 rSetE :=
  pure_tot (P := Tryz.prog) (n := 9162596991) (k := 8) (l := []) (ol := []) trivial Tryz.func135 rfl (by kernel_rfl) Tryz.call135 trivial (ts := rSetTs) (rs := rSetRs) (t := fun a => rSetT a.1 a.2.1 a.2.2) (fun a => by kernel_rfl)

abbrev rPairTs : List Sh := [Sh.agg (R.pair (R.int IntKind.u8) (R.pair (R.int IntKind.u8) (R.pair (R.int IntKind.u8) (R.pair (R.int IntKind.u8) (R.pair (R.int IntKind.u8) (R.pair (R.int IntKind.u8) (R.pair (R.int IntKind.u8) (R.pair (R.pair R.bool (R.pair R.bool (R.pair R.bool (R.pair R.bool (R.pair R.bool (R.pair R.bool R.bool)))))) (R.pair (R.int IntKind.u16) (R.int IntKind.u16)))))))))), Sh.one (R.int IntKind.i64)]

abbrev rPairRs : Rs := Rs.one (Sh.one (R.int IntKind.u16))

noncomputable def rPairT (r : TR) (n : Int) : RT (Option (Int)) :=
  .br (andI IntKind.i64 n 3 == 3)
  (.leaf (some r.2.2.2.2.2.2.2.2.1))
  (.br (!rGetC r (IntKind.i64.wrap (2 * andI IntKind.i64 n 3)) || rGetC r (IntKind.i64.wrap (IntKind.i64.wrap (2 * andI IntKind.i64 n 3) + 1)))
   (.br (rGetC r (IntKind.i64.wrap (2 * andI IntKind.i64 n 3)))
    (.leaf (some (rJoin (rGet r (IntKind.i64.wrap (2 * andI IntKind.i64 n 3))) (rGet r (IntKind.i64.wrap (IntKind.i64.wrap (2 * andI IntKind.i64 n 3) + 1))))))
    (.leaf none))
   (.leaf none))

noncomputable def rPair (r : TR) (n : Int) : Int := getO rPairRs.dflt (rPairT r n).val

noncomputable def rPairC (r : TR) (n : Int) : Bool := okB (rPairT r n).val

noncomputable def rPairE : Entry := pureE rPairTs rPairRs (fun a => some (rPairC a.1 a.2)) (fun a => rPair a.1 a.2)

theorem rPair_ok : EntryOk Tryz.prog 77 rPairE :=
  pure_part (P := Tryz.prog) (n := 31) (k := 8) (l := [(110, rGetE), (119, rJoinE)]) (ol := []) ⟨rGet_ok, rJoin_ok, trivial⟩ Tryz.func77 rfl (by kernel_rfl) Tryz.call77 trivial (ts := rPairTs) (rs := rPairRs) (t := fun a => rPairT a.1 a.2) (fun a => by kernel_rfl)

abbrev rSetPairTs : List Sh := [Sh.agg (R.pair (R.int IntKind.u8) (R.pair (R.int IntKind.u8) (R.pair (R.int IntKind.u8) (R.pair (R.int IntKind.u8) (R.pair (R.int IntKind.u8) (R.pair (R.int IntKind.u8) (R.pair (R.int IntKind.u8) (R.pair (R.pair R.bool (R.pair R.bool (R.pair R.bool (R.pair R.bool (R.pair R.bool (R.pair R.bool R.bool)))))) (R.pair (R.int IntKind.u16) (R.int IntKind.u16)))))))))), Sh.one (R.int IntKind.i64), Sh.one (R.int IntKind.u16)]

abbrev rSetPairRs : Rs := Rs.one (Sh.agg (R.pair (R.int IntKind.u8) (R.pair (R.int IntKind.u8) (R.pair (R.int IntKind.u8) (R.pair (R.int IntKind.u8) (R.pair (R.int IntKind.u8) (R.pair (R.int IntKind.u8) (R.pair (R.int IntKind.u8) (R.pair (R.pair R.bool (R.pair R.bool (R.pair R.bool (R.pair R.bool (R.pair R.bool (R.pair R.bool R.bool)))))) (R.pair (R.int IntKind.u16) (R.int IntKind.u16)))))))))))

noncomputable def rSetPairT (r : TR) (n : Int) (v : Int) : RT TR :=
  .br (andI IntKind.i64 n 3 == 3)
  (.leaf ((r.1, r.2.1, r.2.2.1, r.2.2.2.1, r.2.2.2.2.1, r.2.2.2.2.2.1, r.2.2.2.2.2.2.1, r.2.2.2.2.2.2.2.1, v, r.2.2.2.2.2.2.2.2.2)))
  (.leaf (rSet (rSet r (IntKind.i64.wrap (2 * andI IntKind.i64 n 3)) (IntKind.u8.wrap (shrI IntKind.u16 v 8))) (IntKind.i64.wrap (IntKind.i64.wrap (2 * andI IntKind.i64 n 3) + 1)) (IntKind.u8.wrap v)))

noncomputable def rSetPair (r : TR) (n : Int) (v : Int) : TR := (rSetPairT r n v).val

noncomputable def rSetPairE : Entry := pureE rSetPairTs rSetPairRs (fun _ => none) (fun a => rSetPair a.1 a.2.1 a.2.2)

theorem rSetPair_ok : EntryOk Tryz.prog 136 rSetPairE :=
  pure_tot (P := Tryz.prog) (n := 127) (k := 8) (l := [(135, rSetE)]) (ol := []) ⟨rSet_ok, trivial⟩ Tryz.func136 rfl (by kernel_rfl) Tryz.call136 trivial (ts := rSetPairTs) (rs := rSetPairRs) (t := fun a => rSetPairT a.1 a.2.1 a.2.2) (fun a => by kernel_rfl)

abbrev rPSWTs : List Sh := [Sh.one (R.int IntKind.i64), Sh.agg (R.pair (R.int IntKind.u8) (R.pair (R.int IntKind.u8) (R.pair (R.int IntKind.u8) (R.pair (R.int IntKind.u8) (R.pair (R.int IntKind.u8) (R.pair (R.int IntKind.u8) (R.pair (R.int IntKind.u8) (R.pair (R.pair R.bool (R.pair R.bool (R.pair R.bool (R.pair R.bool (R.pair R.bool (R.pair R.bool R.bool)))))) (R.pair (R.int IntKind.u16) (R.int IntKind.u16))))))))))]

abbrev rPSWRs : Rs := Rs.one (Sh.one (R.int IntKind.u16))

noncomputable def rPSWT (chip : Int) (r : TR) : RT (Option (Int)) :=
  .br (rPackC chip r.2.2.2.2.2.2.2.1)
  (.leaf (some (rJoin r.1 (rPack chip r.2.2.2.2.2.2.2.1))))
  (.leaf none)

noncomputable def rPSW (chip : Int) (r : TR) : Int := getO rPSWRs.dflt (rPSWT chip r).val

noncomputable def rPSWC (chip : Int) (r : TR) : Bool := okB (rPSWT chip r).val

noncomputable def rPSWE : Entry := pureE rPSWTs rPSWRs (fun a => some (rPSWC a.1 a.2)) (fun a => rPSW a.1 a.2)

theorem rPSW_ok : EntryOk Tryz.prog 118 rPSWE :=
  pure_part (P := Tryz.prog) (n := 31) (k := 8) (l := [(119, rJoinE), (171, rPackE)]) (ol := []) ⟨rJoin_ok, rPack_ok, trivial⟩ Tryz.func118 rfl (by kernel_rfl) Tryz.call118 trivial (ts := rPSWTs) (rs := rPSWRs) (t := fun a => rPSWT a.1 a.2) (fun a => by kernel_rfl)

abbrev rSetPSWTs : List Sh := [Sh.one (R.int IntKind.i64), Sh.agg (R.pair (R.int IntKind.u8) (R.pair (R.int IntKind.u8) (R.pair (R.int IntKind.u8) (R.pair (R.int IntKind.u8) (R.pair (R.int IntKind.u8) (R.pair (R.int IntKind.u8) (R.pair (R.int IntKind.u8) (R.pair (R.pair R.bool (R.pair R.bool (R.pair R.bool (R.pair R.bool (R.pair R.bool (R.pair R.bool R.bool)))))) (R.pair (R.int IntKind.u16) (R.int IntKind.u16)))))))))), Sh.one (R.int IntKind.u16)]

abbrev rSetPSWRs : Rs := Rs.one (Sh.agg (R.pair (R.int IntKind.u8) (R.pair (R.int IntKind.u8) (R.pair (R.int IntKind.u8) (R.pair (R.int IntKind.u8) (R.pair (R.int IntKind.u8) (R.pair (R.int IntKind.u8) (R.pair (R.int IntKind.u8) (R.pair (R.pair R.bool (R.pair R.bool (R.pair R.bool (R.pair R.bool (R.pair R.bool (R.pair R.bool R.bool)))))) (R.pair (R.int IntKind.u16) (R.int IntKind.u16)))))))))))

noncomputable def rSetPSWT (chip : Int) (r : TR) (v : Int) : RT TR :=
  .leaf ((IntKind.u8.wrap (shrI IntKind.u16 v 8), r.2.1, r.2.2.1, r.2.2.2.1, r.2.2.2.2.1, r.2.2.2.2.2.1, r.2.2.2.2.2.2.1, rUnpack chip (IntKind.u8.wrap v), r.2.2.2.2.2.2.2.2))

noncomputable def rSetPSW (chip : Int) (r : TR) (v : Int) : TR := (rSetPSWT chip r v).val

noncomputable def rSetPSWE : Entry := pureE rSetPSWTs rSetPSWRs (fun _ => none) (fun a => rSetPSW a.1 a.2.1 a.2.2)

theorem rSetPSW_ok : EntryOk Tryz.prog 137 rSetPSWE :=
  pure_tot (P := Tryz.prog) (n := 127) (k := 8) (l := [(179, rUnpackE)]) (ol := []) ⟨rUnpack_ok, trivial⟩ Tryz.func137 rfl (by kernel_rfl) Tryz.call137 trivial (ts := rSetPSWTs) (rs := rSetPSWRs) (t := fun a => rSetPSWT a.1 a.2.1 a.2.2) (fun a => by kernel_rfl)

abbrev rDoTs : List Sh := [Sh.one (R.int IntKind.i64), Sh.one (R.int IntKind.i64), Sh.one (R.int IntKind.u8), Sh.one (R.int IntKind.u8), Sh.agg (R.pair R.bool (R.pair R.bool (R.pair R.bool (R.pair R.bool (R.pair R.bool (R.pair R.bool R.bool))))))]

abbrev rDoRs : Rs := Rs.tup [Sh.one (R.int IntKind.u8), Sh.agg (R.pair R.bool (R.pair R.bool (R.pair R.bool (R.pair R.bool (R.pair R.bool (R.pair R.bool R.bool))))))]

noncomputable def rDoT (chip : Int) (op : Int) (a : Int) (b : Int) (f : TF) : RT (Int × Bool × Bool × Bool × Bool × Bool × Bool × Bool) :=
  let x1 : Bool := bif andI IntKind.i64 op 7 == 0 then andI IntKind.i64 op 7 == 0 else andI IntKind.i64 op 7 == 1
  let x2 : Bool := bif andI IntKind.i64 op 7 == 2 then andI IntKind.i64 op 7 == 2 else bif andI IntKind.i64 op 7 == 3 then andI IntKind.i64 op 7 == 3 else andI IntKind.i64 op 7 == 7
  let x3 : Int := bif x1 then bif andI IntKind.i64 op 7 == 1 then (rSum a b f.2.2.2.2.2.2).1 else (rSum a b false).1 else bif x2 then bif andI IntKind.i64 op 7 == 3 then (rDiff a b f.2.2.2.2.2.2).1 else (rDiff a b false).1 else bif andI IntKind.i64 op 7 == 4 then bif rOn chip then andI IntKind.u8 a b else andI IntKind.u8 a b else bif andI IntKind.i64 op 7 == 5 then xorI IntKind.u8 a b else bif andI IntKind.i64 op 7 == 6 then orI IntKind.u8 a b else 0
  let x4 : TF := rOf x3
  let x5 : Bool × Bool × Bool × Bool × Bool × Bool := x4.2
  let x6 : Bool × Bool × Bool × Bool × Bool := x5.2
  let x7 : Bool × Bool × Bool := x6.2.2
  let x8 : TF := rOnly chip (x4.1, x5.1, x6.1, bif x1 then bif andI IntKind.i64 op 7 == 1 then (rSum a b f.2.2.2.2.2.2).2.2.1 else (rSum a b false).2.2.1 else bif x2 then bif andI IntKind.i64 op 7 == 3 then (rDiff a b f.2.2.2.2.2.2).2.2.1 else (rDiff a b false).2.2.1 else andI IntKind.i64 op 7 == 4 && (rOn chip || andI IntKind.u8 (orI IntKind.u8 a b) 8 != 0), x7.1, x7.2.1, bif x1 then bif andI IntKind.i64 op 7 == 1 then (rSum a b f.2.2.2.2.2.2).2.1 else (rSum a b false).2.1 else x2 && bif andI IntKind.i64 op 7 == 3 then (rDiff a b f.2.2.2.2.2.2).2.1 else (rDiff a b false).2.1) (rMaj (decide (a ≥ 128)) (bif x1 then decide (b ≥ 128) else bif x2 then !decide (b ≥ 128) else decide (b ≥ 128)) (decide (x3 ≥ 128))) (bif x1 then bif andI IntKind.i64 op 7 == 1 then (rSum a b f.2.2.2.2.2.2).2.2.2 else (rSum a b false).2.2.2 else x2 && bif andI IntKind.i64 op 7 == 3 then (rDiff a b f.2.2.2.2.2.2).2.2.2 else (rDiff a b false).2.2.2)
  .br (andI IntKind.i64 op 7 == 7)
  (.leaf ((a, x8)))
  (.leaf ((x3, x8)))

noncomputable def rDo (chip : Int) (op : Int) (a : Int) (b : Int) (f : TF) : Int × Bool × Bool × Bool × Bool × Bool × Bool × Bool := (rDoT chip op a b f).val

noncomputable def rDoE : Entry := pureE rDoTs rDoRs (fun _ => none) (fun a => rDo a.1 a.2.1 a.2.2.1 a.2.2.2.1 a.2.2.2.2)

theorem rDo_ok : EntryOk Tryz.prog 138 rDoE :=
  pure_tot (P := Tryz.prog) (n := 1246707057321695066193919) (k := 8) (l := [(68, rOnE), (180, rSumE), (181, rDiffE), (182, rOfE), (183, rOnlyE), (184, rMajE)]) (ol := []) ⟨rOn_ok, rSum_ok, rDiff_ok, rOf_ok, rOnly_ok, rMaj_ok, trivial⟩ Tryz.func138 rfl (by kernel_rfl) Tryz.call138 trivial (ts := rDoTs) (rs := rDoRs) (t := fun a => rDoT a.1 a.2.1 a.2.2.1 a.2.2.2.1 a.2.2.2.2) (fun a => by kernel_rfl)

abbrev rInrTs : List Sh := [Sh.one (R.int IntKind.i64), Sh.one (R.int IntKind.u8), Sh.agg (R.pair R.bool (R.pair R.bool (R.pair R.bool (R.pair R.bool (R.pair R.bool (R.pair R.bool R.bool))))))]

abbrev rInrRs : Rs := Rs.tup [Sh.one (R.int IntKind.u8), Sh.agg (R.pair R.bool (R.pair R.bool (R.pair R.bool (R.pair R.bool (R.pair R.bool (R.pair R.bool R.bool))))))]

noncomputable def rInrT (chip : Int) (v : Int) (f : TF) : RT (Int × Bool × Bool × Bool × Bool × Bool × Bool × Bool) :=
  .leaf (((rSum v 1 false).1, rOnly chip ((rOf (rSum v 1 false).1).1, (rOf (rSum v 1 false).1).2.1, (rOf (rSum v 1 false).1).2.2.1, (rSum v 1 false).2.2.1, (rOf (rSum v 1 false).1).2.2.2.2.1, (rOf (rSum v 1 false).1).2.2.2.2.2.1, f.2.2.2.2.2.2) (rMaj (decide (v ≥ 128)) false (decide ((rSum v 1 false).1 ≥ 128))) (rSum v 1 false).2.2.2))

noncomputable def rInr (chip : Int) (v : Int) (f : TF) : Int × Bool × Bool × Bool × Bool × Bool × Bool × Bool := (rInrT chip v f).val

noncomputable def rInrE : Entry := pureE rInrTs rInrRs (fun _ => none) (fun a => rInr a.1 a.2.1 a.2.2)

theorem rInr_ok : EntryOk Tryz.prog 169 rInrE :=
  pure_tot (P := Tryz.prog) (n := 8191) (k := 8) (l := [(180, rSumE), (182, rOfE), (183, rOnlyE), (184, rMajE)]) (ol := []) ⟨rSum_ok, rOf_ok, rOnly_ok, rMaj_ok, trivial⟩ Tryz.func169 rfl (by kernel_rfl) Tryz.call169 trivial (ts := rInrTs) (rs := rInrRs) (t := fun a => rInrT a.1 a.2.1 a.2.2) (fun a => by kernel_rfl)

abbrev rDcrTs : List Sh := [Sh.one (R.int IntKind.i64), Sh.one (R.int IntKind.u8), Sh.agg (R.pair R.bool (R.pair R.bool (R.pair R.bool (R.pair R.bool (R.pair R.bool (R.pair R.bool R.bool))))))]

abbrev rDcrRs : Rs := Rs.tup [Sh.one (R.int IntKind.u8), Sh.agg (R.pair R.bool (R.pair R.bool (R.pair R.bool (R.pair R.bool (R.pair R.bool (R.pair R.bool R.bool))))))]

noncomputable def rDcrT (chip : Int) (v : Int) (f : TF) : RT (Int × Bool × Bool × Bool × Bool × Bool × Bool × Bool) :=
  .leaf (((rDiff v 1 false).1, rOnly chip ((rOf (rDiff v 1 false).1).1, (rOf (rDiff v 1 false).1).2.1, (rOf (rDiff v 1 false).1).2.2.1, (rDiff v 1 false).2.2.1, (rOf (rDiff v 1 false).1).2.2.2.2.1, (rOf (rDiff v 1 false).1).2.2.2.2.2.1, f.2.2.2.2.2.2) (rMaj (decide (v ≥ 128)) true (decide ((rDiff v 1 false).1 ≥ 128))) (rDiff v 1 false).2.2.2))

noncomputable def rDcr (chip : Int) (v : Int) (f : TF) : Int × Bool × Bool × Bool × Bool × Bool × Bool × Bool := (rDcrT chip v f).val

noncomputable def rDcrE : Entry := pureE rDcrTs rDcrRs (fun _ => none) (fun a => rDcr a.1 a.2.1 a.2.2)

theorem rDcr_ok : EntryOk Tryz.prog 170 rDcrE :=
  pure_tot (P := Tryz.prog) (n := 8191) (k := 8) (l := [(181, rDiffE), (182, rOfE), (183, rOnlyE), (184, rMajE)]) (ol := []) ⟨rDiff_ok, rOf_ok, rOnly_ok, rMaj_ok, trivial⟩ Tryz.func170 rfl (by kernel_rfl) Tryz.call170 trivial (ts := rDcrTs) (rs := rDcrRs) (t := fun a => rDcrT a.1 a.2.1 a.2.2) (fun a => by kernel_rfl)

abbrev rInxTs : List Sh := [Sh.one (R.int IntKind.i64), Sh.one (R.int IntKind.u16), Sh.agg (R.pair R.bool (R.pair R.bool (R.pair R.bool (R.pair R.bool (R.pair R.bool (R.pair R.bool R.bool))))))]

abbrev rInxRs : Rs := Rs.tup [Sh.one (R.int IntKind.u16), Sh.agg (R.pair R.bool (R.pair R.bool (R.pair R.bool (R.pair R.bool (R.pair R.bool (R.pair R.bool R.bool))))))]

noncomputable def rInxT (chip : Int) (v : Int) (f : TF) : RT (Int × Bool × Bool × Bool × Bool × Bool × Bool × Bool) :=
  .leaf ((IntKind.u16.wrap (v + 1), f.1, f.2.1, bif rOn chip then v == 65535 else f.2.2.1, f.2.2.2))

noncomputable def rInx (chip : Int) (v : Int) (f : TF) : Int × Bool × Bool × Bool × Bool × Bool × Bool × Bool := (rInxT chip v f).val

noncomputable def rInxE : Entry := pureE rInxTs rInxRs (fun _ => none) (fun a => rInx a.1 a.2.1 a.2.2)

theorem rInx_ok : EntryOk Tryz.prog 139 rInxE :=
  pure_tot (P := Tryz.prog) (n := 255) (k := 8) (l := [(68, rOnE)]) (ol := []) ⟨rOn_ok, trivial⟩ Tryz.func139 rfl (by kernel_rfl) Tryz.call139 trivial (ts := rInxTs) (rs := rInxRs) (t := fun a => rInxT a.1 a.2.1 a.2.2) (fun a => by kernel_rfl)

abbrev rDcxTs : List Sh := [Sh.one (R.int IntKind.i64), Sh.one (R.int IntKind.u16), Sh.agg (R.pair R.bool (R.pair R.bool (R.pair R.bool (R.pair R.bool (R.pair R.bool (R.pair R.bool R.bool))))))]

abbrev rDcxRs : Rs := Rs.tup [Sh.one (R.int IntKind.u16), Sh.agg (R.pair R.bool (R.pair R.bool (R.pair R.bool (R.pair R.bool (R.pair R.bool (R.pair R.bool R.bool))))))]

noncomputable def rDcxT (chip : Int) (v : Int) (f : TF) : RT (Int × Bool × Bool × Bool × Bool × Bool × Bool × Bool) :=
  .leaf ((IntKind.u16.wrap (v - 1), f.1, f.2.1, bif rOn chip then v == 0 else f.2.2.1, f.2.2.2))

noncomputable def rDcx (chip : Int) (v : Int) (f : TF) : Int × Bool × Bool × Bool × Bool × Bool × Bool × Bool := (rDcxT chip v f).val

noncomputable def rDcxE : Entry := pureE rDcxTs rDcxRs (fun _ => none) (fun a => rDcx a.1 a.2.1 a.2.2)

theorem rDcx_ok : EntryOk Tryz.prog 140 rDcxE :=
  pure_tot (P := Tryz.prog) (n := 255) (k := 8) (l := [(68, rOnE)]) (ol := []) ⟨rOn_ok, trivial⟩ Tryz.func140 rfl (by kernel_rfl) Tryz.call140 trivial (ts := rDcxTs) (rs := rDcxRs) (t := fun a => rDcxT a.1 a.2.1 a.2.2) (fun a => by kernel_rfl)

abbrev rDadTs : List Sh := [Sh.one (R.int IntKind.i64), Sh.one (R.int IntKind.u16), Sh.one (R.int IntKind.u16), Sh.agg (R.pair R.bool (R.pair R.bool (R.pair R.bool (R.pair R.bool (R.pair R.bool (R.pair R.bool R.bool))))))]

abbrev rDadRs : Rs := Rs.tup [Sh.one (R.int IntKind.u16), Sh.agg (R.pair R.bool (R.pair R.bool (R.pair R.bool (R.pair R.bool (R.pair R.bool (R.pair R.bool R.bool))))))]

noncomputable def rDadT (chip : Int) (a : Int) (b : Int) (f : TF) : RT (Int × Bool × Bool × Bool × Bool × Bool × Bool × Bool) :=
  .leaf ((IntKind.u16.wrap (a + b), f.1, f.2.1, f.2.2.1, f.2.2.2.1, f.2.2.2.2.1, bif rOn chip then decide (IntKind.i64.wrap (IntKind.i64.wrap (IntKind.i16.wrap a) + IntKind.i64.wrap (IntKind.i16.wrap b)) < -32768) || decide (IntKind.i64.wrap (IntKind.i64.wrap (IntKind.i16.wrap a) + IntKind.i64.wrap (IntKind.i16.wrap b)) > 32767) else f.2.2.2.2.2.1, decide (IntKind.i64.wrap (IntKind.i64.wrap a + IntKind.i64.wrap b) > 65535)))

noncomputable def rDad (chip : Int) (a : Int) (b : Int) (f : TF) : Int × Bool × Bool × Bool × Bool × Bool × Bool × Bool := (rDadT chip a b f).val

noncomputable def rDadE : Entry := pureE rDadTs rDadRs (fun _ => none) (fun a => rDad a.1 a.2.1 a.2.2.1 a.2.2.2)

theorem rDad_ok : EntryOk Tryz.prog 141 rDadE :=
  pure_tot (P := Tryz.prog) (n := 2047) (k := 8) (l := [(68, rOnE)]) (ol := []) ⟨rOn_ok, trivial⟩ Tryz.func141 rfl (by kernel_rfl) Tryz.call141 trivial (ts := rDadTs) (rs := rDadRs) (t := fun a => rDadT a.1 a.2.1 a.2.2.1 a.2.2.2) (fun a => by kernel_rfl)

abbrev rDsubTs : List Sh := [Sh.one (R.int IntKind.u16), Sh.one (R.int IntKind.u16)]

abbrev rDsubRs : Rs := Rs.tup [Sh.one (R.int IntKind.u16), Sh.agg (R.pair R.bool (R.pair R.bool (R.pair R.bool (R.pair R.bool (R.pair R.bool (R.pair R.bool R.bool))))))]

noncomputable def rDsubT (a : Int) (b : Int) : RT (Int × Bool × Bool × Bool × Bool × Bool × Bool × Bool) :=
  let x1 : Int × Bool × Bool × Bool := rDiff (IntKind.u8.wrap (shrI IntKind.u16 a 8)) (IntKind.u8.wrap (shrI IntKind.u16 b 8)) (rDiff (IntKind.u8.wrap a) (IntKind.u8.wrap b) false).2.1
  let x2 : Int := x1.1
  let x3 : Bool := x2 == 0
  let x4 : Int := rJoin x2 (rDiff (IntKind.u8.wrap a) (IntKind.u8.wrap b) false).1
  let x5 : Bool := decide (x2 ≥ 128)
  let x6 : Bool := rMaj (decide (a ≥ 32768)) (decide (b < 32768)) x5
  let x7 : Bool × Bool × Bool := x1.2
  let x8 : Bool × Bool := x7.2
  let x9 : Bool := x8.1
  let x10 : Bool := rParity x2
  let x11 : Bool := x8.2
  let x12 : Bool := x7.1
  .leaf ((bif x3 then x4 else x4, bif x3 then x5 else x5, x3 && (rDiff (IntKind.u8.wrap a) (IntKind.u8.wrap b) false).1 == 0, bif x3 then x6 else x6, bif x3 then x9 else x9, bif x3 then x10 else x10, bif x3 then x11 else x11, bif x3 then x12 else x12))

noncomputable def rDsub (a : Int) (b : Int) : Int × Bool × Bool × Bool × Bool × Bool × Bool × Bool := (rDsubT a b).val

noncomputable def rDsubE : Entry := pureE rDsubTs rDsubRs (fun _ => none) (fun a => rDsub a.1 a.2)

theorem rDsub_ok : EntryOk Tryz.prog 144 rDsubE :=
  pure_tot (P := Tryz.prog) (n := 16383) (k := 8) (l := [(119, rJoinE), (181, rDiffE), (184, rMajE), (186, rParityE)]) (ol := []) ⟨rJoin_ok, rDiff_ok, rMaj_ok, rParity_ok, trivial⟩ Tryz.func144 rfl (by kernel_rfl) Tryz.call144 trivial (ts := rDsubTs) (rs := rDsubRs) (t := fun a => rDsubT a.1 a.2) (fun a => by kernel_rfl)

abbrev rDaaTs : List Sh := [Sh.one (R.int IntKind.i64), Sh.one (R.int IntKind.u8), Sh.agg (R.pair R.bool (R.pair R.bool (R.pair R.bool (R.pair R.bool (R.pair R.bool (R.pair R.bool R.bool))))))]

abbrev rDaaRs : Rs := Rs.tup [Sh.one (R.int IntKind.u8), Sh.agg (R.pair R.bool (R.pair R.bool (R.pair R.bool (R.pair R.bool (R.pair R.bool (R.pair R.bool R.bool))))))]

noncomputable def rDaaT (chip : Int) (a : Int) (f : TF) : RT (Int × Bool × Bool × Bool × Bool × Bool × Bool × Bool) :=
  let x1 : Int := bif f.2.2.2.1 || decide (andI IntKind.u8 a 15 > 9) then 6 else 0
  let x2 : Int × Bool × Bool × Bool := rSum a (bif f.2.2.2.2.2.2 || decide (a > 153) then IntKind.u8.wrap (x1 + 96) else x1) false
  let x3 : Int := x2.1
  let x4 : TF := rOf x3
  let x5 : Bool × Bool × Bool × Bool × Bool × Bool := x4.2
  let x6 : Bool × Bool × Bool × Bool × Bool := x5.2
  let x7 : Bool × Bool := x2.2.2
  let x8 : Bool × Bool × Bool := x6.2.2
  .leaf ((x3, rOnly chip (x4.1, x5.1, x6.1, x7.1, x8.1, x8.2.1, f.2.2.2.2.2.2 || decide (a > 153)) (rMaj (decide (a ≥ 128)) false (decide (x3 ≥ 128))) x7.2))

noncomputable def rDaa (chip : Int) (a : Int) (f : TF) : Int × Bool × Bool × Bool × Bool × Bool × Bool × Bool := (rDaaT chip a f).val

noncomputable def rDaaE : Entry := pureE rDaaTs rDaaRs (fun _ => none) (fun a => rDaa a.1 a.2.1 a.2.2)

theorem rDaa_ok : EntryOk Tryz.prog 142 rDaaE :=
  pure_tot (P := Tryz.prog) (n := 32767) (k := 8) (l := [(180, rSumE), (182, rOfE), (183, rOnlyE), (184, rMajE)]) (ol := []) ⟨rSum_ok, rOf_ok, rOnly_ok, rMaj_ok, trivial⟩ Tryz.func142 rfl (by kernel_rfl) Tryz.call142 trivial (ts := rDaaTs) (rs := rDaaRs) (t := fun a => rDaaT a.1 a.2.1 a.2.2) (fun a => by kernel_rfl)

abbrev rRotTs : List Sh := [Sh.one (R.int IntKind.i64), Sh.one (R.int IntKind.u8), Sh.one R.bool]

abbrev rRotRs : Rs := Rs.tup [Sh.one (R.int IntKind.u8), Sh.one R.bool]

noncomputable def rRotT (op : Int) (a : Int) (c : Bool) : RT (Option (Int × Bool)) :=
  .br (andI IntKind.i64 op 3 == 0 || (andI IntKind.i64 op 3 == 1 || (!andI IntKind.i64 op 3 == 2 || rBitC c 0)))
  (.br (andI IntKind.i64 op 3 == 0)
   (.leaf (some ((orI IntKind.u8 (shlI IntKind.u8 a 1) (shrI IntKind.u8 a 7), decide (a ≥ 128)))))
   (.br (andI IntKind.i64 op 3 == 1)
    (.leaf (some ((orI IntKind.u8 (shrI IntKind.u8 a 1) (shlI IntKind.u8 a 7), andI IntKind.u8 a 1 == 1))))
    (.br (andI IntKind.i64 op 3 == 2)
     (.leaf (some ((orI IntKind.u8 (shlI IntKind.u8 a 1) (rBit c 0), decide (a ≥ 128)))))
     (.br (rBitC c 7)
      (.leaf (some ((orI IntKind.u8 (shrI IntKind.u8 a 1) (rBit c 7), andI IntKind.u8 a 1 == 1))))
      (.leaf none)))))
  (.leaf none)

noncomputable def rRot (op : Int) (a : Int) (c : Bool) : Int × Bool := getO rRotRs.dflt (rRotT op a c).val

noncomputable def rRotC (op : Int) (a : Int) (c : Bool) : Bool := okB (rRotT op a c).val

noncomputable def rRotE : Entry := pureE rRotTs rRotRs (fun a => some (rRotC a.1 a.2.1 a.2.2)) (fun a => rRot a.1 a.2.1 a.2.2)

theorem rRot_ok : EntryOk Tryz.prog 143 rRotE :=
  pure_part (P := Tryz.prog) (n := 537396479) (k := 8) (l := [(185, rBitE)]) (ol := []) ⟨rBit_ok, trivial⟩ Tryz.func143 rfl (by kernel_rfl) Tryz.call143 trivial (ts := rRotTs) (rs := rRotRs) (t := fun a => rRotT a.1 a.2.1 a.2.2) (fun a => by kernel_rfl)

abbrev rArhlTs : List Sh := [Sh.one (R.int IntKind.u16)]

abbrev rArhlRs : Rs := Rs.tup [Sh.one (R.int IntKind.u16), Sh.one R.bool]

noncomputable def rArhlT (v : Int) : RT (Int × Bool) :=
  .leaf ((orI IntKind.u16 (shrI IntKind.u16 v 1) (andI IntKind.u16 v 32768), andI IntKind.u16 v 1 == 1))

noncomputable def rArhl (v : Int) : Int × Bool := (rArhlT v).val

noncomputable def rArhlE : Entry := pureE rArhlTs rArhlRs (fun _ => none) (fun a => rArhl a)

theorem rArhl_ok : EntryOk Tryz.prog 145 rArhlE :=
  pure_tot (P := Tryz.prog) (n := 15) (k := 8) (l := []) (ol := []) trivial Tryz.func145 rfl (by kernel_rfl) Tryz.call145 trivial (ts := rArhlTs) (rs := rArhlRs) (t := fun a => rArhlT a) (fun a => by kernel_rfl)

abbrev rRdelTs : List Sh := [Sh.one (R.int IntKind.u16), Sh.one R.bool]

abbrev rRdelRs : Rs := Rs.tup [Sh.one (R.int IntKind.u16), Sh.one R.bool, Sh.one R.bool]

noncomputable def rRdelT (v : Int) (c : Bool) : RT (Option (Int × Bool × Bool)) :=
  .br (rBitC c 0)
  (.leaf (some ((orI IntKind.u16 (shlI IntKind.u16 v 1) (IntKind.u16.wrap (rBit c 0)), decide (v ≥ 32768), andI IntKind.u16 (orI IntKind.u16 (shlI IntKind.u16 v 1) (IntKind.u16.wrap (rBit c 0))) 32768 != andI IntKind.u16 v 32768))))
  (.leaf none)

noncomputable def rRdel (v : Int) (c : Bool) : Int × Bool × Bool := getO rRdelRs.dflt (rRdelT v c).val

noncomputable def rRdelC (v : Int) (c : Bool) : Bool := okB (rRdelT v c).val

noncomputable def rRdelE : Entry := pureE rRdelTs rRdelRs (fun a => some (rRdelC a.1 a.2)) (fun a => rRdel a.1 a.2)

theorem rRdel_ok : EntryOk Tryz.prog 146 rRdelE :=
  pure_part (P := Tryz.prog) (n := 255) (k := 8) (l := [(185, rBitE)]) (ol := []) ⟨rBit_ok, trivial⟩ Tryz.func146 rfl (by kernel_rfl) Tryz.call146 trivial (ts := rRdelTs) (rs := rRdelRs) (t := fun a => rRdelT a.1 a.2) (fun a => by kernel_rfl)

abbrev rBit14Ts : List Sh := [Sh.one R.bool, Sh.one (R.int IntKind.i64)]

abbrev rBit14Rs : Rs := Rs.one (Sh.one (R.int IntKind.u8))

noncomputable def rBit14T (b : Bool) (n : Int) : RT (Option (Int)) :=
  .br (decide (0 ≤ n))
  (.leaf (some (IntKind.u8.wrap (shlI IntKind.i64 (rOne b) n))))
  (.leaf none)

noncomputable def rBit14 (b : Bool) (n : Int) : Int := getO rBit14Rs.dflt (rBit14T b n).val

noncomputable def rBit14C (b : Bool) (n : Int) : Bool := okB (rBit14T b n).val

noncomputable def rBit14E : Entry := pureE rBit14Ts rBit14Rs (fun a => some (rBit14C a.1 a.2)) (fun a => rBit14 a.1 a.2)

theorem rBit14_ok : EntryOk Tryz.prog 147 rBit14E :=
  pure_part (P := Tryz.prog) (n := 31) (k := 8) (l := [(82, rOneE)]) (ol := []) ⟨rOne_ok, trivial⟩ Tryz.func147 rfl (by kernel_rfl) Tryz.call147 trivial (ts := rBit14Ts) (rs := rBit14Rs) (t := fun a => rBit14T a.1 a.2) (fun a => by kernel_rfl)

abbrev rRimTs : List Sh := [Sh.agg (R.pair (R.int IntKind.i64) (R.pair (R.pair (R.int IntKind.u8) (R.pair (R.int IntKind.u8) (R.pair (R.int IntKind.u8) (R.pair (R.int IntKind.u8) (R.pair (R.int IntKind.u8) (R.pair (R.int IntKind.u8) (R.pair (R.int IntKind.u8) (R.pair (R.pair R.bool (R.pair R.bool (R.pair R.bool (R.pair R.bool (R.pair R.bool (R.pair R.bool R.bool)))))) (R.pair (R.int IntKind.u16) (R.int IntKind.u16)))))))))) (R.pair R.bool (R.pair R.bool (R.pair R.bool (R.pair (R.int IntKind.u8) (R.pair R.bool (R.pair R.bool (R.pair R.bool (R.pair R.bool (R.pair R.bool (R.pair R.bool R.bool)))))))))))), Sh.agg (R.pair R.bool (R.pair R.bool (R.pair R.bool (R.pair R.bool (R.pair R.bool (R.pair R.bool (R.pair R.bool (R.pair R.bool R.bool))))))))]

abbrev rRimRs : Rs := Rs.tup [Sh.one (R.int IntKind.u8), Sh.agg (R.pair (R.int IntKind.i64) (R.pair (R.pair (R.int IntKind.u8) (R.pair (R.int IntKind.u8) (R.pair (R.int IntKind.u8) (R.pair (R.int IntKind.u8) (R.pair (R.int IntKind.u8) (R.pair (R.int IntKind.u8) (R.pair (R.int IntKind.u8) (R.pair (R.pair R.bool (R.pair R.bool (R.pair R.bool (R.pair R.bool (R.pair R.bool (R.pair R.bool R.bool)))))) (R.pair (R.int IntKind.u16) (R.int IntKind.u16)))))))))) (R.pair R.bool (R.pair R.bool (R.pair R.bool (R.pair (R.int IntKind.u8) (R.pair R.bool (R.pair R.bool (R.pair R.bool (R.pair R.bool (R.pair R.bool (R.pair R.bool R.bool))))))))))))]

noncomputable def rRimT (c : TC) (l : Bool × Bool × Bool × Bool × Bool × Bool × Bool × Bool × Bool) : RT (Option (Int × TC)) :=
  let x1 : Bool := bif c.2.2.2.2.2.2.2.2.2.2.1 then c.2.2.2.2.2.2.2.2.2.2.2.1 else c.2.2.1
  .br (!rBit14C l.2.2.2.1 7 || (!rBit14C c.2.2.2.2.2.2.2.1 6 || (!rBit14C l.2.2.2.2.2.2.1 5 || (!rBit14C l.2.2.2.2.2.2.2.1 4 || rBit14C x1 3))))
  (.br (!rBit14C l.2.2.2.1 7 || (!rBit14C c.2.2.2.2.2.2.2.1 6 || (!rBit14C l.2.2.2.2.2.2.1 5 || rBit14C l.2.2.2.2.2.2.2.1 4)))
   (.br (!rBit14C l.2.2.2.1 7 || (!rBit14C c.2.2.2.2.2.2.2.1 6 || rBit14C l.2.2.2.2.2.2.1 5))
    (.br (!rBit14C l.2.2.2.1 7 || rBit14C c.2.2.2.2.2.2.2.1 6)
     (.br (rBit14C l.2.2.2.1 7)
      (.leaf (some ((orI IntKind.u8 (orI IntKind.u8 (orI IntKind.u8 (orI IntKind.u8 (orI IntKind.u8 (rBit14 l.2.2.2.1 7) (rBit14 c.2.2.2.2.2.2.2.1 6)) (rBit14 l.2.2.2.2.2.2.1 5)) (rBit14 l.2.2.2.2.2.2.2.1 4)) (rBit14 x1 3)) (andI IntKind.u8 c.2.2.2.2.2.1 7), c.1, c.2.1, c.2.2.1, c.2.2.2.1, c.2.2.2.2.1, c.2.2.2.2.2.1, c.2.2.2.2.2.2.1, c.2.2.2.2.2.2.2.1, c.2.2.2.2.2.2.2.2.1, c.2.2.2.2.2.2.2.2.2.1, false, false, c.2.2.2.2.2.2.2.2.2.2.2.2))))
      (.leaf none))
     (.leaf none))
    (.leaf none))
   (.leaf none))
  (.leaf none)

noncomputable def rRim (c : TC) (l : Bool × Bool × Bool × Bool × Bool × Bool × Bool × Bool × Bool) : Int × TC := getO rRimRs.dflt (rRimT c l).val

noncomputable def rRimC (c : TC) (l : Bool × Bool × Bool × Bool × Bool × Bool × Bool × Bool × Bool) : Bool := okB (rRimT c l).val

noncomputable def rRimE : Entry := pureE rRimTs rRimRs (fun a => some (rRimC a.1 a.2)) (fun a => rRim a.1 a.2)

theorem rRim_ok : EntryOk Tryz.prog 78 rRimE :=
  pure_part (P := Tryz.prog) (n := 255) (k := 8) (l := [(147, rBit14E)]) (ol := []) ⟨rBit14_ok, trivial⟩ Tryz.func78 rfl (by kernel_rfl) Tryz.call78 trivial (ts := rRimTs) (rs := rRimRs) (t := fun a => rRimT a.1 a.2) (fun a => by kernel_rfl)

abbrev rSimTs : List Sh := [Sh.agg (R.pair (R.int IntKind.i64) (R.pair (R.pair (R.int IntKind.u8) (R.pair (R.int IntKind.u8) (R.pair (R.int IntKind.u8) (R.pair (R.int IntKind.u8) (R.pair (R.int IntKind.u8) (R.pair (R.int IntKind.u8) (R.pair (R.int IntKind.u8) (R.pair (R.pair R.bool (R.pair R.bool (R.pair R.bool (R.pair R.bool (R.pair R.bool (R.pair R.bool R.bool)))))) (R.pair (R.int IntKind.u16) (R.int IntKind.u16)))))))))) (R.pair R.bool (R.pair R.bool (R.pair R.bool (R.pair (R.int IntKind.u8) (R.pair R.bool (R.pair R.bool (R.pair R.bool (R.pair R.bool (R.pair R.bool (R.pair R.bool R.bool)))))))))))), Sh.one (R.int IntKind.u8)]

abbrev rSimRs : Rs := Rs.one (Sh.agg (R.pair (R.int IntKind.i64) (R.pair (R.pair (R.int IntKind.u8) (R.pair (R.int IntKind.u8) (R.pair (R.int IntKind.u8) (R.pair (R.int IntKind.u8) (R.pair (R.int IntKind.u8) (R.pair (R.int IntKind.u8) (R.pair (R.int IntKind.u8) (R.pair (R.pair R.bool (R.pair R.bool (R.pair R.bool (R.pair R.bool (R.pair R.bool (R.pair R.bool R.bool)))))) (R.pair (R.int IntKind.u16) (R.int IntKind.u16)))))))))) (R.pair R.bool (R.pair R.bool (R.pair R.bool (R.pair (R.int IntKind.u8) (R.pair R.bool (R.pair R.bool (R.pair R.bool (R.pair R.bool (R.pair R.bool (R.pair R.bool R.bool)))))))))))))

noncomputable def rSimT (c : TC) (a : Int) : RT TC :=
  .leaf ((c.1, c.2.1, c.2.2.1, c.2.2.2.1, c.2.2.2.2.1, bif andI IntKind.u8 a 8 != 0 then andI IntKind.u8 a 7 else c.2.2.2.2.2.1, c.2.2.2.2.2.2.1, !andI IntKind.u8 a 16 != 0 && c.2.2.2.2.2.2.2.1, c.2.2.2.2.2.2.2.2.1, c.2.2.2.2.2.2.2.2.2.1, c.2.2.2.2.2.2.2.2.2.2.1, c.2.2.2.2.2.2.2.2.2.2.2.1, bif andI IntKind.u8 a 64 != 0 then andI IntKind.u8 a 128 != 0 else c.2.2.2.2.2.2.2.2.2.2.2.2))

noncomputable def rSim (c : TC) (a : Int) : TC := (rSimT c a).val

noncomputable def rSimE : Entry := pureE rSimTs rSimRs (fun _ => none) (fun a => rSim a.1 a.2)

theorem rSim_ok : EntryOk Tryz.prog 79 rSimE :=
  pure_tot (P := Tryz.prog) (n := 31) (k := 8) (l := []) (ol := []) trivial Tryz.func79 rfl (by kernel_rfl) Tryz.call79 trivial (ts := rSimTs) (rs := rSimRs) (t := fun a => rSimT a.1 a.2) (fun a => by kernel_rfl)

abbrev rHoldsTs : List Sh := [Sh.one (R.int IntKind.i64), Sh.agg (R.pair R.bool (R.pair R.bool (R.pair R.bool (R.pair R.bool (R.pair R.bool (R.pair R.bool R.bool))))))]

abbrev rHoldsRs : Rs := Rs.one (Sh.one R.bool)

noncomputable def rHoldsT (c : Int) (f : TF) : RT (Bool) :=
  .br (c == 0)
  (.leaf (!f.2.1))
  (.br (c == 1)
   (.leaf f.2.1)
   (.br (c == 2)
    (.leaf (!f.2.2.2.2.2.2))
    (.br (c == 3)
     (.leaf f.2.2.2.2.2.2)
     (.br (c == 4)
      (.leaf (!f.2.2.2.2.1))
      (.br (c == 5)
       (.leaf f.2.2.2.2.1)
       (.br (c == 6)
        (.leaf (!f.1))
        (.br (c == 7)
         (.leaf f.1)
         (.br (c == 8)
          (.leaf (!f.2.2.1))
          (.br (c == 9)
           (.leaf f.2.2.1)
           (.br (c == 10)
            (.leaf f.2.2.2.2.2.1)
            (.leaf (c == 11))))))))))))

noncomputable def rHolds (c : Int) (f : TF) : Bool := (rHoldsT c f).val

noncomputable def rHoldsE : Entry := pureE rHoldsTs rHoldsRs (fun _ => none) (fun a => rHolds a.1 a.2)

theorem rHolds_ok : EntryOk Tryz.prog 24 rHoldsE :=
  pure_tot (P := Tryz.prog) (n := 2397219371124831) (k := 8) (l := []) (ol := []) trivial Tryz.func24 rfl (by kernel_rfl) Tryz.call24 trivial (ts := rHoldsTs) (rs := rHoldsRs) (t := fun a => rHoldsT a.1 a.2) (fun a => by kernel_rfl)

abbrev rVectorTs : List Sh := [Sh.one (R.int IntKind.i64)]

abbrev rVectorRs : Rs := Rs.one (Sh.one (R.int IntKind.u16))

noncomputable def rVectorT (s : Int) : RT (Int) :=
  .br (s == 1)
  (.leaf (36))
  (.br (s == 2)
   (.leaf (60))
   (.br (s == 3)
    (.leaf (52))
    (.br (s == 4)
     (.leaf (44))
     (.leaf (0)))))

noncomputable def rVector (s : Int) : Int := (rVectorT s).val

noncomputable def rVectorE : Entry := pureE rVectorTs rVectorRs (fun _ => none) (fun a => rVector a)

theorem rVector_ok : EntryOk Tryz.prog 71 rVectorE :=
  pure_tot (P := Tryz.prog) (n := 1367) (k := 8) (l := []) (ol := []) trivial Tryz.func71 rfl (by kernel_rfl) Tryz.call71 trivial (ts := rVectorTs) (rs := rVectorRs) (t := fun a => rVectorT a) (fun a => by kernel_rfl)

abbrev rInternalTs : List Sh := [Sh.one (R.int IntKind.i64)]

abbrev rInternalRs : Rs := Rs.one (Sh.one R.bool)

noncomputable def rInternalT (s : Int) : RT (Bool) :=
  .leaf (decide (s ≥ 1) && decide (s ≤ 4))

noncomputable def rInternal (s : Int) : Bool := (rInternalT s).val

noncomputable def rInternalE : Entry := pureE rInternalTs rInternalRs (fun _ => none) (fun a => rInternal a)

theorem rInternal_ok : EntryOk Tryz.prog 59 rInternalE :=
  pure_tot (P := Tryz.prog) (n := 7) (k := 8) (l := []) (ol := []) trivial Tryz.func59 rfl (by kernel_rfl) Tryz.call59 trivial (ts := rInternalTs) (rs := rInternalRs) (t := fun a => rInternalT a) (fun a => by kernel_rfl)

abbrev rSpecialTs : List Sh := [Sh.one (R.int IntKind.u8)]

abbrev rSpecialRs : Rs := Rs.tup [Sh.agg (R.pair (R.int IntKind.i64) (R.pair (R.int IntKind.i64) (R.pair (R.int IntKind.i64) (R.pair (R.int IntKind.i64) (R.pair (R.int IntKind.i64) (R.pair (R.int IntKind.i64) (R.pair (R.int IntKind.i64) (R.int IntKind.i64)))))))), Sh.one R.bool]

noncomputable def rSpecialT (op : Int) : RT (TI × Bool) :=
  .br (op == 8)
  (.leaf (((40, 1, 0, 0, 0, 0, 0, 0), true)))
  (.br (op == 16)
   (.leaf (((41, 1, 0, 0, 0, 0, 0, 0), true)))
   (.br (op == 24)
    (.leaf (((42, 1, 0, 0, 0, 0, 0, 0), true)))
    (.br (op == 32)
     (.leaf (((38, 1, 0, 0, 0, 0, 0, 0), true)))
     (.br (op == 40)
      (.leaf (((43, 2, 0, 0, 0, 0, 0, 0), true)))
      (.br (op == 48)
       (.leaf (((39, 1, 0, 0, 0, 0, 0, 0), true)))
       (.br (op == 56)
        (.leaf (((44, 2, 0, 0, 0, 0, 0, 0), true)))
        (.br (op == 203)
         (.leaf (((45, 1, 0, 0, 0, 0, 10, 0), true)))
         (.br (op == 217)
          (.leaf (((46, 1, 0, 0, 0, 0, 0, 0), true)))
          (.br (op == 221)
           (.leaf (((24, 3, 0, 0, 0, 0, 8, 0), true)))
           (.br (op == 237)
            (.leaf (((47, 1, 0, 0, 0, 0, 0, 0), true)))
            (.br (op == 253)
             (.leaf (((24, 3, 0, 0, 0, 0, 9, 0), true)))
             (.leaf (((0, 0, 0, 0, 0, 0, 0, 0), false))))))))))))))

noncomputable def rSpecial (op : Int) : TI × Bool := (rSpecialT op).val

noncomputable def rSpecialE : Entry := pureE rSpecialTs rSpecialRs (fun _ => none) (fun a => rSpecial a)

theorem rSpecial_ok : EntryOk Tryz.prog 67 rSpecialE :=
  pure_tot (P := Tryz.prog) (n := 314146179375) (k := 8) (l := []) (ol := []) trivial Tryz.func67 rfl (by kernel_rfl) Tryz.call67 trivial (ts := rSpecialTs) (rs := rSpecialRs) (t := fun a => rSpecialT a) (fun a => by kernel_rfl)

abbrev rOlowTs : List Sh := [Sh.one (R.int IntKind.i64), Sh.one (R.int IntKind.i64), Sh.one (R.int IntKind.i64), Sh.one (R.int IntKind.i64)]

abbrev rOlowRs : Rs := Rs.one (Sh.agg (R.pair (R.int IntKind.i64) (R.pair (R.int IntKind.i64) (R.pair (R.int IntKind.i64) (R.pair (R.int IntKind.i64) (R.pair (R.int IntKind.i64) (R.pair (R.int IntKind.i64) (R.pair (R.int IntKind.i64) (R.int IntKind.i64)))))))))

noncomputable def rOlowT (y : Int) (z : Int) (p : Int) (q : Int) : RT (Option TI) :=
  let x1 : Bool := decide (0 ≤ IntKind.i64.wrap (y - 4) ∧ IntKind.i64.wrap (y - 4) < 4)
  .br (z == 0)
  (.leaf (some ((1, 1, 0, 0, 0, 0, 0, 0))))
  (.br (z == 1)
   (.br (q == 0)
    (.leaf (some ((4, 3, 0, 0, p, 0, 0, 0))))
    (.leaf (some ((18, 1, 0, 0, p, 0, 0, 0)))))
   (.br (!z == 2 || ((bif y == 0 then y == 0 else y == 2) || ((bif y == 1 then y == 1 else y == 3) || x1)))
    (.br (z == 2)
     (.br (bif y == 0 then y == 0 else y == 2)
      (.leaf (some ((10, 1, 0, 0, p, 0, 0, 0))))
      (.br (bif y == 1 then y == 1 else y == 3)
       (.leaf (some ((9, 1, 0, 0, p, 0, 0, 0))))
       (.leaf (some ((bif IntKind.i64.wrap (y - 4) == 0 then 8 else bif IntKind.i64.wrap (y - 4) == ↑(0 + 1) then 7 else bif IntKind.i64.wrap (y - 4) == ↑(0 + 1 + 1) then 6 else 5, 3, 0, 0, 0, 0, 0, 0))))))
     (.br (!z == 3 || decide (0 ≤ q ∧ q < 2))
      (.br (z == 3)
       (.leaf (some ((bif q == 0 then 16 else 17, 1, 0, 0, p, 0, 0, 0))))
       (.br (z == 4)
        (.leaf (some ((14, 1, y, 0, 0, 0, 0, 0))))
        (.br (z == 5)
         (.leaf (some ((15, 1, y, 0, 0, 0, 0, 0))))
         (.br (z == 6)
          (.leaf (some ((3, 2, y, 0, 0, 0, 0, 0))))
          (.br (decide (y < 4))
           (.leaf (some ((23, 1, 0, 0, 0, y, 0, 0))))
           (.br (x1)
            (.leaf (some ((bif IntKind.i64.wrap (y - 4) == 0 then 19 else bif IntKind.i64.wrap (y - 4) == ↑(0 + 1) then 20 else bif IntKind.i64.wrap (y - 4) == ↑(0 + 1 + 1) then 21 else 22, 1, 0, 0, 0, 0, 0, 0))))
            (.leaf none)))))))
      (.leaf none)))
    (.leaf none)))

noncomputable def rOlow (y : Int) (z : Int) (p : Int) (q : Int) : Int × Int × Int × Int × Int × Int × Int × Int := getO rOlowRs.dflt (rOlowT y z p q).val

noncomputable def rOlowC (y : Int) (z : Int) (p : Int) (q : Int) : Bool := okB (rOlowT y z p q).val

noncomputable def rOlowE : Entry := pureE rOlowTs rOlowRs (fun a => some (rOlowC a.1 a.2.1 a.2.2.1 a.2.2.2)) (fun a => rOlow a.1 a.2.1 a.2.2.1 a.2.2.2)

theorem rOlow_ok : EntryOk Tryz.prog 69 rOlowE :=
  pure_part (P := Tryz.prog) (n := 19211217472071167) (k := 8) (l := []) (ol := []) trivial Tryz.func69 rfl (by kernel_rfl) Tryz.call69 trivial (ts := rOlowTs) (rs := rOlowRs) (t := fun a => rOlowT a.1 a.2.1 a.2.2.1 a.2.2.2) (fun a => by kernel_rfl)

abbrev rOhighTs : List Sh := [Sh.one (R.int IntKind.i64), Sh.one (R.int IntKind.i64), Sh.one (R.int IntKind.i64), Sh.one (R.int IntKind.i64)]

abbrev rOhighRs : Rs := Rs.one (Sh.agg (R.pair (R.int IntKind.i64) (R.pair (R.int IntKind.i64) (R.pair (R.int IntKind.i64) (R.pair (R.int IntKind.i64) (R.pair (R.int IntKind.i64) (R.pair (R.int IntKind.i64) (R.pair (R.int IntKind.i64) (R.int IntKind.i64)))))))))

noncomputable def rOhighT (y : Int) (z : Int) (p : Int) (q : Int) : RT (Option TI) :=
  .br (z == 0)
  (.leaf (some ((26, 1, 0, 0, 0, 0, y, 0))))
  (.br (z == 1)
   (.br (q == 0)
    (.leaf (some ((31, 1, 0, 0, p, 0, 0, 0))))
    (.br (y == 5)
     (.leaf (some ((28, 1, 0, 0, 0, 0, 0, 0))))
     (.br (y == 7)
      (.leaf (some ((29, 1, 0, 0, 0, 0, 0, 0))))
      (.leaf (some ((26, 1, 0, 0, 0, 0, 11, 0)))))))
   (.br (z == 2 || (!z == 3 || ((bif y == 0 then y == 0 else y == 1) || (y == 2 || (y == 3 || decide (0 ≤ IntKind.i64.wrap (y - 4) ∧ IntKind.i64.wrap (y - 4) < 4))))))
    (.br (z == 2)
     (.leaf (some ((24, 3, 0, 0, 0, 0, y, 0))))
     (.br (z == 3)
      (.br (bif y == 0 then y == 0 else y == 1)
       (.leaf (some ((24, 3, 0, 0, 0, 0, 11, 0))))
       (.br (y == 2)
        (.leaf (some ((34, 2, 0, 0, 0, 0, 0, 0))))
        (.br (y == 3)
         (.leaf (some ((33, 2, 0, 0, 0, 0, 0, 0))))
         (.leaf (some ((bif IntKind.i64.wrap (y - 4) == 0 then 32 else bif IntKind.i64.wrap (y - 4) == ↑(0 + 1) then 11 else bif IntKind.i64.wrap (y - 4) == ↑(0 + 1 + 1) then 36 else 35, 1, 0, 0, 0, 0, 0, 0)))))))
      (.br (z == 4)
       (.leaf (some ((25, 3, 0, 0, 0, 0, y, 0))))
       (.br (z == 5)
        (.br (q == 0)
         (.leaf (some ((30, 1, 0, 0, p, 0, 0, 0))))
         (.leaf (some ((25, 3, 0, 0, 0, 0, 11, 0)))))
        (.br (z == 6)
         (.leaf (some ((13, 2, 0, 0, 0, y, 0, 0))))
         (.leaf (some ((27, 1, 0, 0, 0, 0, 0, y)))))))))
    (.leaf none)))

noncomputable def rOhigh (y : Int) (z : Int) (p : Int) (q : Int) : Int × Int × Int × Int × Int × Int × Int × Int := getO rOhighRs.dflt (rOhighT y z p q).val

noncomputable def rOhighC (y : Int) (z : Int) (p : Int) (q : Int) : Bool := okB (rOhighT y z p q).val

noncomputable def rOhighE : Entry := pureE rOhighTs rOhighRs (fun a => some (rOhighC a.1 a.2.1 a.2.2.1 a.2.2.2)) (fun a => rOhigh a.1 a.2.1 a.2.2.1 a.2.2.2)

theorem rOhigh_ok : EntryOk Tryz.prog 70 rOhighE :=
  pure_part (P := Tryz.prog) (n := 2324988294374376959) (k := 8) (l := []) (ol := []) trivial Tryz.func70 rfl (by kernel_rfl) Tryz.call70 trivial (ts := rOhighTs) (rs := rOhighRs) (t := fun a => rOhighT a.1 a.2.1 a.2.2.1 a.2.2.2) (fun a => by kernel_rfl)

abbrev rDecodeTs : List Sh := [Sh.one (R.int IntKind.i64), Sh.one (R.int IntKind.u8)]

abbrev rDecodeRs : Rs := Rs.one (Sh.agg (R.pair (R.int IntKind.i64) (R.pair (R.int IntKind.i64) (R.pair (R.int IntKind.i64) (R.pair (R.int IntKind.i64) (R.pair (R.int IntKind.i64) (R.pair (R.int IntKind.i64) (R.pair (R.int IntKind.i64) (R.int IntKind.i64)))))))))

noncomputable def rDecodeT (chip : Int) (op : Int) : RT (Option TI) :=
  .br ((rSpecial op).2 && rOn chip)
  (.leaf (some (rSpecial op).1))
  (.br (!shrI IntKind.u8 op 6 == 0 || rOlowC (IntKind.i64.wrap (andI IntKind.u8 (shrI IntKind.u8 op 3) 7)) (IntKind.i64.wrap (andI IntKind.u8 op 7)) (shrI IntKind.i64 (IntKind.i64.wrap (andI IntKind.u8 (shrI IntKind.u8 op 3) 7)) 1) (andI IntKind.i64 (IntKind.i64.wrap (andI IntKind.u8 (shrI IntKind.u8 op 3) 7)) 1))
   (.br (shrI IntKind.u8 op 6 == 0)
    (.leaf (some (rOlow (IntKind.i64.wrap (andI IntKind.u8 (shrI IntKind.u8 op 3) 7)) (IntKind.i64.wrap (andI IntKind.u8 op 7)) (shrI IntKind.i64 (IntKind.i64.wrap (andI IntKind.u8 (shrI IntKind.u8 op 3) 7)) 1) (andI IntKind.i64 (IntKind.i64.wrap (andI IntKind.u8 (shrI IntKind.u8 op 3) 7)) 1))))
    (.br (shrI IntKind.u8 op 6 == 1)
     (.br (op == 118)
      (.leaf (some ((37, 1, 0, 0, 0, 0, 0, 0))))
      (.leaf (some ((2, 1, IntKind.i64.wrap (andI IntKind.u8 (shrI IntKind.u8 op 3) 7), IntKind.i64.wrap (andI IntKind.u8 op 7), 0, 0, 0, 0)))))
     (.br (shrI IntKind.u8 op 6 == 2)
      (.leaf (some ((12, 1, 0, IntKind.i64.wrap (andI IntKind.u8 op 7), 0, IntKind.i64.wrap (andI IntKind.u8 (shrI IntKind.u8 op 3) 7), 0, 0))))
      (.br (rOhighC (IntKind.i64.wrap (andI IntKind.u8 (shrI IntKind.u8 op 3) 7)) (IntKind.i64.wrap (andI IntKind.u8 op 7)) (shrI IntKind.i64 (IntKind.i64.wrap (andI IntKind.u8 (shrI IntKind.u8 op 3) 7)) 1) (andI IntKind.i64 (IntKind.i64.wrap (andI IntKind.u8 (shrI IntKind.u8 op 3) 7)) 1))
       (.leaf (some (rOhigh (IntKind.i64.wrap (andI IntKind.u8 (shrI IntKind.u8 op 3) 7)) (IntKind.i64.wrap (andI IntKind.u8 op 7)) (shrI IntKind.i64 (IntKind.i64.wrap (andI IntKind.u8 (shrI IntKind.u8 op 3) 7)) 1) (andI IntKind.i64 (IntKind.i64.wrap (andI IntKind.u8 (shrI IntKind.u8 op 3) 7)) 1))))
       (.leaf none)))))
   (.leaf none))

noncomputable def rDecode (chip : Int) (op : Int) : Int × Int × Int × Int × Int × Int × Int × Int := getO rDecodeRs.dflt (rDecodeT chip op).val

noncomputable def rDecodeC (chip : Int) (op : Int) : Bool := okB (rDecodeT chip op).val

noncomputable def rDecodeE : Entry := pureE rDecodeTs rDecodeRs (fun a => some (rDecodeC a.1 a.2)) (fun a => rDecode a.1 a.2)

theorem rDecode_ok : EntryOk Tryz.prog 25 rDecodeE :=
  pure_part (P := Tryz.prog) (n := 70644158956031) (k := 8) (l := [(67, rSpecialE), (68, rOnE), (69, rOlowE), (70, rOhighE)]) (ol := []) ⟨rSpecial_ok, rOn_ok, rOlow_ok, rOhigh_ok, trivial⟩ Tryz.func25 rfl (by kernel_rfl) Tryz.call25 trivial (ts := rDecodeTs) (rs := rDecodeRs) (t := fun a => rDecodeT a.1 a.2) (fun a => by kernel_rfl)
end
end Go.Proofs.YteboknglfjadoaaGreat
