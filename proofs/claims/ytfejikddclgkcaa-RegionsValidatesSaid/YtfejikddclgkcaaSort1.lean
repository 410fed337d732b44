/-
  Contracts of functions; each found by the symbolic executor and checked by the kernel. Conditions: none.
-/
import Derived.Test.YtfejikddclgkcaaS3D
import Derived.Test.YtfejikddclgkcaaProg
import Derived.Test.YtfejikddclgkcaaS3Stg
set_option linter.unusedSimpArgs false
open Go Go.S3 Go.Proofs
set_option linter.unusedVariables false
set_option maxRecDepth 100000
namespace Go.Proofs.Ytfejikddclgkcaa
noncomputable section
noncomputable def ucmp_isNaN_uint16_E : Entry := .tree (evFunc (envX Try.prog [] [] 7 8) Try.f57)


theorem ucmp_isNaN_uint16__ok : EntryOk Try.prog 57 ucmp_isNaN_uint16_E := inl_ok (P := Try.prog) (n := 7) (k := 8) (l := []) (ol := []) trivial Try.func57 rfl (by kernel_rfl) Try.call57 trivial


abbrev uCmpTs : List Sh := [Sh.one (R.int IntKind.u16), Sh.one (R.int IntKind.u16)]


abbrev uCmpRs : Rs := Rs.one (Sh.one (R.int IntKind.i64))


noncomputable def uCmpT (x : Int) (y : Int) : RT (Int) :=
  .br (x != x)
  (.br (y != y)
   (.leaf (0))
   (.leaf (-1)))
  (.br (y != y)
   (.leaf (1))
   (.br (decide (x < y))
    (.leaf (-1))
    (.br (decide (x > y))
     (.leaf (1))
     (.leaf (0)))))


noncomputable def uCmp (x : Int) (y : Int) : Int := (uCmpT x y).val


noncomputable def uCmpE : Entry := pureE uCmpTs uCmpRs (fun _ => none) (fun a => uCmp a.1 a.2)


theorem uCmp_ok : EntryOk Try.prog 49 uCmpE :=
  pure_tot (P := Try.prog) (n := 127) (k := 8) (l := [(57, ucmp_isNaN_uint16_E)]) (ol := []) ⟨ucmp_isNaN_uint16__ok, trivial⟩ Try.func49 rfl (by kernel_rfl) Try.call49 trivial (ts := uCmpTs) (rs := uCmpRs) (t := fun a => uCmpT a.1 a.2) (fun a => by kernel_rfl)


abbrev uLessTs : List Sh := [Sh.agg (R.pair (R.int IntKind.u16) (R.int IntKind.u8)), Sh.agg (R.pair (R.int IntKind.u16) (R.int IntKind.u8))]


abbrev uLessRs : Rs := Rs.one (Sh.one (R.int IntKind.i64))


noncomputable def uLessT (a : Int × Int) (b : Int × Int) : RT (Int) :=
  .leaf (uCmp a.1 b.1)


noncomputable def uLess (a : Int × Int) (b : Int × Int) : Int := (uLessT a b).val


noncomputable def uLessE : Entry := pureE uLessTs uLessRs (fun _ => none) (fun a => uLess a.1 a.2)


theorem uLess_ok : EntryOk Try.prog 48 uLessE :=
  pure_tot (P := Try.prog) (n := 31) (k := 8) (l := [(49, uCmpE)]) (ol := []) ⟨uCmp_ok, trivial⟩ Try.func48 rfl (by kernel_rfl) Try.call48 trivial (ts := uLessTs) (rs := uLessRs) (t := fun a => uLessT a.1 a.2) (fun a => by kernel_rfl)


abbrev uSwapRb : R := R.pair (R.int IntKind.u16) (R.int IntKind.u8)


abbrev uSwapEl : Nat := 42

abbrev uSwapTs : List Sh := [Sh.one (R.int IntKind.i64), Sh.one (R.int IntKind.i64), Sh.one (R.int IntKind.i64)]


def uSwapL0c : LS := { n := 38, slots := [(0, .tip 0), (1, .code (Sh.one (R.int IntKind.i64))), (2, .code (Sh.one (R.int IntKind.i64))), (3, .code (Sh.one (R.int IntKind.i64))), (10, .code (Sh.one (R.int IntKind.i64)))], boxes := [], stgs := [⟨R.pair (R.int IntKind.u16) (R.int IntKind.u8), 42, false⟩], keep := [0] }


noncomputable def uSwapL0T (a : Int × Int × Int × Int × List (Int × Int) × PUnit) : RT (Option (Go1 (Int × Int × Int × Int × List (Int × Int) × PUnit))) :=
  let x1 : Bool := inRng (IntKind.i64.wrap (a.2.1 + a.2.2.2.1)) (List.length a.2.2.2.2.1)
  let x2 : Bool := !x1
  let x3 : Bool := inRng (IntKind.i64.wrap (a.1 + a.2.2.2.1)) (List.length a.2.2.2.2.1)
  let x4 : Bool := !x3
  let x5 : List (Int × Int) := setI a.2.2.2.2.1 (IntKind.i64.wrap (a.1 + a.2.2.2.1)) (R.get (R.pair (R.int IntKind.u16) (R.int IntKind.u8)) a.2.2.2.2.1 (IntKind.i64.wrap (a.2.1 + a.2.2.2.1)))
  let x6 : Bool := x2 || (x4 || (x4 || inRng (IntKind.i64.wrap (a.2.1 + a.2.2.2.1)) (List.length x5)))
  let x7 : Bool := !x6
  let x8 : Bool := x2 || (x4 || x3)
  let x9 : Bool := !x8
  let x10 : Bool := x2 || x3
  .br (decide (a.2.2.2.1 < a.2.2.1))
  (.br (x7 || (x9 || (!x10 || x1)))
   (.br (x7 || (x9 || x10))
    (.br (x7 || x8)
     (.br (x6)
      (.leaf (some (Go1.cont (a.1, a.2.1, a.2.2.1, IntKind.i64.wrap (a.2.2.2.1 + 1), setI x5 (IntKind.i64.wrap (a.2.1 + a.2.2.2.1)) (R.get (R.pair (R.int IntKind.u16) (R.int IntKind.u8)) a.2.2.2.2.1 (IntKind.i64.wrap (a.1 + a.2.2.2.1))), PUnit.unit))))
      (.leaf none))
     (.leaf none))
    (.leaf none))
   (.leaf none))
  (.leaf (some (Go1.brk (a.1, a.2.1, a.2.2.1, a.2.2.2.1, a.2.2.2.2.1, PUnit.unit))))

noncomputable def uSwapL0O : Ora := loopE false uSwapL0c uSwapL0T (fun a => (a.2.2.1 - a.2.2.2.1).toNat + 1)

theorem uSwapL0_ok : OraOk (envX Try.prog [(48, uLessE)] [] 2047 8) (.block 0 (.loop (bodyIn Try.f65.body 0))) uSwapL0O :=
  loop_part (envX_ok (l := [(48, uLessE)]) ⟨uLess_ok, trivial⟩ [] 2047 8) (loopsOk_bare (by kernel_rfl)) (fun a => by kernel_rfl)

noncomputable def uSwapT (s : List (Int × Int)) (a : Int) (b : Int) (n : Int) : RT (Option (List (Int × Int))) :=
  let x1 : Int × Int × Int × Int × List (Int × Int) × PUnit := (a, b, n, 0, Stg.l (ownSt uSwapRb uSwapEl s), ())
  let x2 : Option (Bool × Int × Int × Int × Int × List (Int × Int) × PUnit) := runF false uSwapL0T (fun a_1 => Int.toNat (a_1.2.2.1 - a_1.2.2.2.1) + 1) x1
  .br (okB x2)
  (.leaf (some (getO (false, x1) x2).2.2.2.2.2.1))
  (.leaf none)

noncomputable def uSwap (s : List (Int × Int)) (a : Int) (b : Int) (n : Int) : List (Int × Int) := getO [] (uSwapT s a b n).val

noncomputable def uSwapC (s : List (Int × Int)) (a : Int) (b : Int) (n : Int) : Bool := okB (uSwapT s a b n).val

noncomputable def uSwapE : Entry := stE uSwapRb uSwapEl 48 uSwapTs (fun a => some (uSwapC a.1 a.2.1 a.2.2.1 a.2.2.2)) (fun a => uSwap a.1 a.2.1 a.2.2.1 a.2.2.2)

theorem uSwap_ok : EntryOk Try.prog 65 uSwapE :=
  st_part (P := Try.prog) (n := 2047) (k := 8) (l := [(48, uLessE)]) (ol := [(0, uSwapL0O)]) ⟨uLess_ok, trivial⟩ Try.func65 rfl (by kernel_rfl) Try.call65 ⟨uSwapL0_ok, trivial⟩ (r := uSwapRb) (T := uSwapEl) (g0 := 48) (ts := uSwapTs) (t := fun a => uSwapT a.1 a.2.1 a.2.2.1 a.2.2.2) (fun a => by kernel_rfl)

abbrev uInsRb : R := R.pair (R.int IntKind.u16) (R.int IntKind.u8)


abbrev uInsEl : Nat := 42

abbrev uInsTs : List Sh := [Sh.one (R.int IntKind.i64), Sh.one (R.int IntKind.i64)]


def uInsL0c : LS := { n := 53, slots := [(0, .tip 0), (1, .code (Sh.one (R.int IntKind.i64))), (2, .code (Sh.one (R.int IntKind.i64))), (3, .fix (A.clo 48 [])), (8, .code (Sh.one (R.int IntKind.i64))), (9, .code (Sh.one (R.int IntKind.i64)))], boxes := [], stgs := [⟨R.pair (R.int IntKind.u16) (R.int IntKind.u8), 42, false⟩], keep := [0] }


noncomputable def uInsL0T (a : Int × Int × Int × Int × List (Int × Int) × PUnit) : RT (Option (Go1 (Int × Int × Int × Int × List (Int × Int) × PUnit))) :=
  let x1 : Bool := !inRng a.2.2.2.1 (List.length a.2.2.2.2.1)
  let x2 : Bool := inRng (IntKind.i64.wrap (a.2.2.2.1 - 1)) (List.length a.2.2.2.2.1)
  let x3 : Int × Int := R.get (R.pair (R.int IntKind.u16) (R.int IntKind.u8)) a.2.2.2.2.1 a.2.2.2.1
  let x4 : Int × Int := R.get (R.pair (R.int IntKind.u16) (R.int IntKind.u8)) a.2.2.2.2.1 (IntKind.i64.wrap (a.2.2.2.1 - 1))
  let x5 : Bool := !x2
  let x6 : List (Int × Int) := setI a.2.2.2.2.1 a.2.2.2.1 x4
  let x7 : Bool := x5 || (x1 || (x1 || inRng (IntKind.i64.wrap (a.2.2.2.1 - 1)) (List.length x6)))
  let x8 : Bool := !x7
  let x9 : Bool := x5 || (x1 || inRng a.2.2.2.1 (List.length a.2.2.2.2.1))
  let x10 : Bool := !x9
  let x11 : Bool := x5 || inRng a.2.2.2.1 (List.length a.2.2.2.2.1)
  .br (!decide (a.2.2.2.1 > a.1) || (x1 || x2))
  (.br (!decide (a.2.2.2.1 > a.1) || inRng a.2.2.2.1 (List.length a.2.2.2.2.1))
   (.br (decide (a.2.2.2.1 > a.1) && decide (uLess x3 x4 < 0))
    (.br (x8 || (x10 || (!x11 || x2)))
     (.br (x8 || (x10 || x11))
      (.br (x8 || x9)
       (.br (x7)
        (.leaf (some (Go1.cont (a.1, a.2.1, a.2.2.1, IntKind.i64.wrap (a.2.2.2.1 - 1), setI x6 (IntKind.i64.wrap (a.2.2.2.1 - 1)) x3, PUnit.unit))))
        (.leaf none))
       (.leaf none))
      (.leaf none))
     (.leaf none))
    (.leaf (some (Go1.brk (a.1, a.2.1, a.2.2.1, a.2.2.2.1, a.2.2.2.2.1, PUnit.unit)))))
   (.leaf none))
  (.leaf none)

noncomputable def uInsL0O : Ora := loopE false uInsL0c uInsL0T (fun a => (a.2.2.2.1 - a.1).toNat + 1)

theorem uInsL0_ok : OraOk (envX Try.prog [(48, uLessE)] [] 1023 8) (.block 2 (.loop (bodyIn Try.f60.body 2))) uInsL0O :=
  loop_part (envX_ok (l := [(48, uLessE)]) ⟨uLess_ok, trivial⟩ [] 1023 8) (loopsOk_bare (by kernel_rfl)) (fun a => by kernel_rfl)

def uInsL1c : LS := { n := 53, slots := [(0, .tip 0), (1, .code (Sh.one (R.int IntKind.i64))), (2, .code (Sh.one (R.int IntKind.i64))), (3, .fix (A.clo 48 [])), (8, .code (Sh.one (R.int IntKind.i64)))], boxes := [], stgs := [⟨R.pair (R.int IntKind.u16) (R.int IntKind.u8), 42, false⟩], keep := [0] }


noncomputable def uInsL1T (a : Int × Int × Int × List (Int × Int) × PUnit) : RT (Option (Go1 (Int × Int × Int × List (Int × Int) × PUnit))) :=
  let x1 : Int × Int × Int × Int × List (Int × Int) × PUnit := (a.1, a.2.1, a.2.2.1, a.2.2.1, a.2.2.2.1, ())
  let x2 : Option (Bool × Int × Int × Int × Int × List (Int × Int) × PUnit) := runF false uInsL0T (fun a_1 => Int.toNat (a_1.2.2.2.1 - a_1.1) + 1) x1
  let x3 : Int × Int × Int × Int × List (Int × Int) × PUnit := (getO (false, x1) x2).2
  let x4 : Int × Int × Int × List (Int × Int) × PUnit := x3.2
  let x5 : Int × Int × List (Int × Int) × PUnit := x4.2
  .br (decide (a.2.2.1 < a.2.1))
  (.br (okB x2)
   (.leaf (some (Go1.cont (x3.1, x4.1, IntKind.i64.wrap (x5.1 + 1), x5.2.2.1, PUnit.unit))))
   (.leaf none))
  (.leaf (some (Go1.brk (a.1, a.2.1, a.2.2.1, a.2.2.2.1, PUnit.unit))))

noncomputable def uInsL1O : Ora := loopE false uInsL1c uInsL1T (fun a => (a.2.1 - a.2.2.1).toNat + 1)

theorem uInsL1_ok : OraOk (envX Try.prog [(48, uLessE)] [(2, uInsL0O)] 1023 8) (.block 0 (.loop (bodyIn Try.f60.body 0))) uInsL1O :=
  loop_part (envX_ok (l := [(48, uLessE)]) ⟨uLess_ok, trivial⟩ [(2, uInsL0O)] 1023 8) (loopsOk_sub (by kernel_rfl) (by kernel_rfl) ⟨uInsL0_ok, trivial⟩) (fun a => by kernel_rfl)

noncomputable def uInsT (s : List (Int × Int)) (a : Int) (b : Int) : RT (Option (List (Int × Int))) :=
  let x1 : Int × Int × Int × List (Int × Int) × PUnit := (a, b, IntKind.i64.wrap (a + 1), Stg.l (ownSt uInsRb uInsEl s), ())
  let x2 : Option (Bool × Int × Int × Int × List (Int × Int) × PUnit) := runF false uInsL1T (fun a_1 => Int.toNat (a_1.2.1 - a_1.2.2.1) + 1) x1
  .br (okB x2)
  (.leaf (some (getO (false, x1) x2).2.2.2.2.1))
  (.leaf none)

noncomputable def uIns (s : List (Int × Int)) (a : Int) (b : Int) : List (Int × Int) := getO [] (uInsT s a b).val

noncomputable def uInsC (s : List (Int × Int)) (a : Int) (b : Int) : Bool := okB (uInsT s a b).val

noncomputable def uInsE : Entry := stE uInsRb uInsEl 48 uInsTs (fun a => some (uInsC a.1 a.2.1 a.2.2)) (fun a => uIns a.1 a.2.1 a.2.2)

theorem uIns_ok : EntryOk Try.prog 60 uInsE :=
  st_part (P := Try.prog) (n := 1023) (k := 8) (l := [(48, uLessE)]) (ol := [(2, uInsL0O), (0, uInsL1O)]) ⟨uLess_ok, trivial⟩ Try.func60 rfl (by kernel_rfl) Try.call60 ⟨uInsL0_ok, uInsL1_ok, trivial⟩ (r := uInsRb) (T := uInsEl) (g0 := 48) (ts := uInsTs) (t := fun a => uInsT a.1 a.2.1 a.2.2) (fun a => by kernel_rfl)

end
end Go.Proofs.Ytfejikddclgkcaa
