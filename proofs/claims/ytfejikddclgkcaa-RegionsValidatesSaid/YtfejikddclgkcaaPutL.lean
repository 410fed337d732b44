/-
  Contracts of functions; each found by the symbolic executor and checked by the kernel. Conditions: none.
-/
import Derived.Test.YtfejikddclgkcaaS3D
import Derived.Test.YtfejikddclgkcaaProg
import Derived.Test.YtfejikddclgkcaaInsE
import Derived.Test.YtfejikddclgkcaaMemD
import Derived.Test.YtfejikddclgkcaaS3Clo
import Derived.Test.YtfejikddclgkcaaGetD
set_option linter.unusedSimpArgs false
open Go Go.S3 Go.Proofs
set_option linter.unusedVariables false
set_option maxRecDepth 100000
namespace Go.Proofs.Ytfejikddclgkcaa
noncomputable section
abbrev uAtTs : List Sh := [Sh.agg (R.pair (R.int IntKind.u16) (R.int IntKind.u8)), Sh.one (R.int IntKind.u16)]

abbrev uAtRs : Rs := Rs.one (Sh.one (R.int IntKind.i64))

noncomputable def uAtT (c : Int × Int) (t : Int) : RT (Int) :=
  .leaf (uCmp c.1 t)

noncomputable def uAt (c : Int × Int) (t : Int) : Int := (uAtT c t).val

noncomputable def uAtE : Entry := pureE uAtTs uAtRs (fun _ => none) (fun a => uAt a.1 a.2)

theorem uAt_ok : EntryOk Try.prog 51 uAtE :=
  pure_tot (P := Try.prog) (n := 31) (k := 8) (l := [(49, uCmpE)]) (ol := []) ⟨uCmp_ok, trivial⟩ Try.func51 rfl (by kernel_rfl) Try.call51 trivial (ts := uAtTs) (rs := uAtRs) (t := fun a => uAtT a.1 a.2) (fun a => by kernel_rfl)

abbrev uFindTs : List Sh := [Sh.one (R.sl (R.pair (R.int IntKind.u16) (R.int IntKind.u8))), Sh.one (R.int IntKind.u16)]

abbrev uFindRs : Rs := Rs.tup [Sh.one (R.int IntKind.i64), Sh.one R.bool]

def uFindL0c : LS := { n := 49, slots := [(0, .code (Sh.one (R.sl (R.pair (R.int IntKind.u16) (R.int IntKind.u8))))), (1, .code (Sh.one (R.int IntKind.u16))), (2, .fix (A.clo 51 [])), (8, .code (Sh.one (R.int IntKind.i64))), (9, .code (Sh.one (R.int IntKind.i64))), (10, .code (Sh.one (R.int IntKind.i64)))], boxes := [], stgs := [] }


noncomputable def uFindL0T (a : List (Int × Int) × Int × Int × Int × Int × PUnit) : RT (Option (Go1 (List (Int × Int) × Int × Int × Int × Int × PUnit))) :=
  let x1 : Int := IntKind.i64.wrap (shrI IntKind.u64 (IntKind.u64.wrap (IntKind.i64.wrap (a.2.2.2.1 + a.2.2.2.2.1))) 1)
  let x2 : Bool := decide (uAt (R.get (R.pair (R.int IntKind.u16) (R.int IntKind.u8)) a.1 x1) a.2.1 < 0)
  .br (decide (a.2.2.2.1 < a.2.2.2.2.1))
  (.br (inRng x1 (List.length a.1))
   (.leaf (some (Go1.cont (a.1, a.2.1, a.2.2.1, bif x2 then IntKind.i64.wrap (x1 + 1) else a.2.2.2.1, bif x2 then a.2.2.2.2.1 else x1, PUnit.unit))))
   (.leaf none))
  (.leaf (some (Go1.brk (a.1, a.2.1, a.2.2.1, a.2.2.2.1, a.2.2.2.2.1, PUnit.unit))))

noncomputable def uFindL0O : Ora := loopE false uFindL0c uFindL0T (fun a => (a.2.2.2.2.1 - a.2.2.2.1).toNat + 1)

theorem uFindL0_ok : OraOk (envX Try.prog [(51, uAtE)] [] 4095 8) (.block 0 (.loop (bodyIn Try.f50.body 0))) uFindL0O :=
  loop_part (envX_ok (l := [(51, uAtE)]) ⟨uAt_ok, trivial⟩ [] 4095 8) (loopsOk_bare (by kernel_rfl)) (fun a => by kernel_rfl)

noncomputable def uFindT (x : List (Int × Int)) (t : Int) : RT (Option (Int × Bool)) :=
  let x1 : List (Int × Int) × Int × Int × Int × Int × PUnit := (x, t, iN (List.length x), 0, iN (List.length x), ())
  let x2 : Option (Bool × List (Int × Int) × Int × Int × Int × Int × PUnit) := runF false uFindL0T (fun a => Int.toNat (a.2.2.2.2.1 - a.2.2.2.1) + 1) x1
  let x3 : List (Int × Int) × Int × Int × Int × Int × PUnit := (getO (false, x1) x2).2
  let x4 : Int × Int × Int × Int × PUnit := x3.2
  let x5 : Int × Int × Int × PUnit := x4.2
  let x6 : Int := x5.2.1
  let x7 : Bool := decide (x6 < x5.1)
  let x8 : List (Int × Int) := x3.1
  .br (okB x2)
  (.br (!x7 || inRng x6 (List.length x8))
   (.leaf (some ((bif x7 then x6 else x6, x7 && uAt (R.get (R.pair (R.int IntKind.u16) (R.int IntKind.u8)) x8 x6) x4.1 == 0))))
   (.leaf none))
  (.leaf none)

noncomputable def uFind (x : List (Int × Int)) (t : Int) : Int × Bool := getO uFindRs.dflt (uFindT x t).val

noncomputable def uFindC (x : List (Int × Int)) (t : Int) : Bool := okB (uFindT x t).val

noncomputable def uFindE : Entry := pureFE 51 uFindTs uFindRs (fun a => some (uFindC a.1 a.2)) (fun a => uFind a.1 a.2)

theorem uFind_ok : EntryOk Try.prog 50 uFindE :=
  purec_part (P := Try.prog) (n := 4095) (k := 8) (l := [(51, uAtE)]) (ol := [(0, uFindL0O)]) ⟨uAt_ok, trivial⟩ Try.func50 rfl (by kernel_rfl) Try.call50 ⟨uFindL0_ok, trivial⟩ (g0 := 51) (ts := uFindTs) (rs := uFindRs) (t := fun a => uFindT a.1 a.2) (fun a => by kernel_rfl)

abbrev mPutTs : List Sh := [Sh.one (R.sl (R.pair (R.int IntKind.u16) (R.int IntKind.u8))), Sh.one (R.int IntKind.u16), Sh.one (R.int IntKind.u8)]

abbrev mPutRs : Rs := Rs.one (Sh.one (R.sl (R.pair (R.int IntKind.u16) (R.int IntKind.u8))))

noncomputable def mPutT (m : List (Int × Int)) (t : Int) (v : Int) : RT (Option (List (Int × Int))) :=
  let x1 : Bool := !(v == 0 && !(uFind m t).2) || Nat.ble (List.length m) most
  let x2 : Bool := !x1
  let x3 : Bool := v == 0 && !(uFind m t).2 || (!v == 0 || (!Nat.ble (List.length m) most || decide (0 ≤ (uFind m t).1) && decide ((uFind m t).1 < iN (List.length m)) && decide (IntKind.i64.wrap ((uFind m t).1 + 1) = (uFind m t).1 + 1)))
  let x4 : Bool := !x3
  let x5 : Bool := v == 0 && !(uFind m t).2 || (!v == 0 || Nat.ble (List.length m) most)
  let x6 : Bool := !x5
  let x7 : Bool := v == 0 && !(uFind m t).2 || (v == 0 || (!(uFind m t).2 || Nat.ble (List.length m) most))
  .br (mValidC m)
  (.br (!!mValid m || (!Nat.ble (List.length m) most || (!Nat.ble (List.length (m ++ [(t, v)])) most || mNormC (m ++ [(t, v)]))))
   (.br (!!mValid m || (!Nat.ble (List.length m) most || Nat.ble (List.length (m ++ [(t, v)])) most))
    (.br (!!mValid m || Nat.ble (List.length m) most)
     (.br (!mValid m)
      (.leaf (some (mNorm (m ++ [(t, v)]))))
      (.br (uFindC m t)
       (.br (x2 || (x4 || (x6 || (!x7 || (v == 0 && !(uFind m t).2 || (v == 0 || (!(uFind m t).2 || inRng (uFind m t).1 (List.length m))))))))
        (.br (x2 || (x4 || (x6 || x7)))
         (.br (x2 || (x4 || x5))
          (.br (x2 || x3)
           (.br (x1)
            (.br (v == 0 && !(uFind m t).2)
             (.leaf (some (m)))
             (.br (v == 0)
              (.leaf (some (delX m (Int.toNat (uFind m t).1))))
              (.br (uFind m t).2
               (.leaf (some (setI m (uFind m t).1 ((R.get (R.pair (R.int IntKind.u16) (R.int IntKind.u8)) m (uFind m t).1).1, v))))
               (.br (!Nat.ble (List.length m) most || decide (0 ≤ (uFind m t).1) && decide ((uFind m t).1 ≤ iN (List.length m)) && Nat.ble (List.length m + 1) most)
                (.br (Nat.ble (List.length m) most)
                 (.leaf (some (insX m (Int.toNat (uFind m t).1) (t, v))))
                 (.leaf none))
                (.leaf none)))))
            (.leaf none))
           (.leaf none))
          (.leaf none))
         (.leaf none))
        (.leaf none))
       (.leaf none)))
     (.leaf none))
    (.leaf none))
   (.leaf none))
  (.leaf none)

noncomputable def mPut (m : List (Int × Int)) (t : Int) (v : Int) : List (Int × Int) := getO mPutRs.dflt (mPutT m t v).val

noncomputable def mPutC (m : List (Int × Int)) (t : Int) (v : Int) : Bool := okB (mPutT m t v).val

noncomputable def mPutE : Entry := pureE mPutTs mPutRs (fun a => some (mPutC a.1 a.2.1 a.2.2)) (fun a => mPut a.1 a.2.1 a.2.2)

theorem mPut_ok : EntryOk Try.prog 23 mPutE :=
  pure_part (P := Try.prog) (n := 35253225784319) (k := 108) (l := [(17, mValidE), (22, mNormE), (46, cloneCE), (50, uFindE), (51, uAtE), (52, delE), (53, insE)]) (ol := []) ⟨mValid_ok, mNorm_ok, cloneC_ok, uFind_ok, uAt_ok, del_ok, ins_ok, trivial⟩ Try.func23 rfl (by kernel_rfl) Try.call23 trivial (ts := mPutTs) (rs := mPutRs) (t := fun a => mPutT a.1 a.2.1 a.2.2) (fun a => by kernel_rfl)

end
end Go.Proofs.Ytfejikddclgkcaa
