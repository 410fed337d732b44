/-
  Memories: Load, Same and Find of the reference, the program's Valid and Find, Read and Write, as plain functions. Conditions: none.
-/
import Derived.Test.YtpkijkmagnhciaaGreatS3D
import Derived.Test.YtpkijkmagnhciaaGreatProg
import Derived.Test.YtpkijkmagnhciaaGreatMem1
set_option linter.unusedSimpArgs false
open Go Go.S3 Go.Proofs
set_option linter.unusedVariables false
set_option maxRecDepth 100000
namespace Go.Proofs.YtpkijkmagnhciaaGreat
noncomputable section
abbrev rValidTs : List Sh := [Sh.one rcCE]
abbrev rValidRs : Rs := Rs.one (Sh.one R.bool)
def rValidL0c : LS := { n := 34, slots := [(0, .code (Sh.one rcCE)), (2, .code (Sh.one R.bool)), (5, .code (Sh.one (R.int IntKind.i64))), (6, .code (Sh.one (R.int IntKind.i64)))], boxes := [], stgs := [] }
def rValidL0T (a : List (Int × Int) × Bool × Int × Int × PUnit) : RT (Option (Go1 (List (Int × Int) × Bool × Int × Int × PUnit))) :=
  let x1 : Bool := (R.get (R.pair (R.int IntKind.u16) (R.int IntKind.u8)) a.1 a.2.2.2.1).2 == 0
  let x2 : Bool := !inRng a.2.2.2.1 (List.length a.1) || (x1 || (!decide (a.2.2.2.1 > 0) || (!inRng a.2.2.2.1 (List.length a.1) || inRng (IntKind.i64.wrap (a.2.2.2.1 - 1)) (List.length a.1))))
  let x3 : Bool := !x2
  let x4 : Bool := !inRng a.2.2.2.1 (List.length a.1) || (x1 || (!decide (a.2.2.2.1 > 0) || inRng a.2.2.2.1 (List.length a.1)))
  .br (decide (a.2.2.2.1 < a.2.2.1))
  (.br (x3 || (!x4 || inRng a.2.2.2.1 (List.length a.1)))
   (.br (x3 || x4)
    (.br (x2)
     (.br (x1 || decide (a.2.2.2.1 > 0) && decide ((R.get (R.pair (R.int IntKind.u16) (R.int IntKind.u8)) a.1 a.2.2.2.1).1 ≤ (R.get (R.pair (R.int IntKind.u16) (R.int IntKind.u8)) a.1 (IntKind.i64.wrap (a.2.2.2.1 - 1))).1))
      (.leaf (some (Go1.ret (a.1, false, a.2.2.1, a.2.2.2.1, PUnit.unit))))
      (.leaf (some (Go1.cont (a.1, a.2.1, a.2.2.1, IntKind.i64.wrap (a.2.2.2.1 + 1), PUnit.unit)))))
     (.leaf none))
    (.leaf none))
   (.leaf none))
  (.leaf (some (Go1.brk (a.1, a.2.1, a.2.2.1, a.2.2.2.1, PUnit.unit))))
def rValidL0O : Ora := loopE true rValidL0c rValidL0T (fun a => 1000000000000)
theorem rValidL0_ok : OraOk (envX Tryz.prog [] [] 15 8) (.block 0 (.loop (bodyIn Tryz.f36.body 0))) rValidL0O :=
  loop_part (envX_ok (l := []) trivial [] 15 8) (loopsOk_bare (by kernel_rfl)) (fun a => by kernel_rfl)
def rValidT (m : List (Int × Int)) : RT (Option (Bool)) :=
  let x1 : Option (Bool × List (Int × Int) × Bool × Int × Int × PUnit) := runF true rValidL0T (fun a => 1000000000000) (m, false, iN (List.length m), 0, ())
  let x2 : Bool × List (Int × Int) × Bool × Int × Int × PUnit := getO (false, m, false, iN (List.length m), 0, ()) x1
  .br (okB x1)
  (.br x2.1
   (.leaf (some x2.2.2.1))
   (.leaf (some (true))))
  (.leaf none)
def rValid (m : List (Int × Int)) : Bool := getO rValidRs.dflt (rValidT m).val
def rValidC (m : List (Int × Int)) : Bool := okB (rValidT m).val
def rValidE : Entry := pureE rValidTs rValidRs (fun a => some (rValidC a)) (fun a => rValid a)
theorem rValid_ok : EntryOk Tryz.prog 36 rValidE :=
  pure_part (P := Tryz.prog) (n := 15) (k := 8) (l := []) (ol := [(0, rValidL0O)]) trivial Tryz.func36 rfl (by kernel_rfl) Tryz.call36 ⟨rValidL0_ok, trivial⟩ (ts := rValidTs) (rs := rValidRs) (t := fun a => rValidT a) (fun a => by kernel_rfl)
abbrev rGetMTs : List Sh := [Sh.one rcCE, Sh.one (R.int IntKind.u16)]
abbrev rGetMRs : Rs := Rs.one (Sh.one (R.int IntKind.u8))
def rGetML0c : LS := { n := 25, slots := [(0, .code (Sh.one rcCE)), (1, .code (Sh.one (R.int IntKind.u16))), (4, .code (Sh.one (R.int IntKind.u8))), (5, .code (Sh.one (R.int IntKind.i64)))], boxes := [], stgs := [] }
def rGetML0T (a : List (Int × Int) × Int × Int × Int × PUnit) : RT (Option (Go1 (List (Int × Int) × Int × Int × Int × PUnit))) :=
  let x1 : Bool := (R.get (R.pair (R.int IntKind.u16) (R.int IntKind.u8)) a.1 a.2.2.2.1).1 == a.2.1
  .br (decide (a.2.2.2.1 ≥ 0))
  (.br (!inRng a.2.2.2.1 (List.length a.1) || (!x1 || inRng a.2.2.2.1 (List.length a.1)))
   (.br (inRng a.2.2.2.1 (List.length a.1))
    (.br (x1)
     (.leaf (some (Go1.ret (a.1, a.2.1, (R.get (R.pair (R.int IntKind.u16) (R.int IntKind.u8)) a.1 a.2.2.2.1).2, a.2.2.2.1, PUnit.unit))))
     (.leaf (some (Go1.cont (a.1, a.2.1, a.2.2.1, IntKind.i64.wrap (a.2.2.2.1 - 1), PUnit.unit)))))
    (.leaf none))
   (.leaf none))
  (.leaf (some (Go1.brk (a.1, a.2.1, a.2.2.1, a.2.2.2.1, PUnit.unit))))
def rGetML0O : Ora := loopE true rGetML0c rGetML0T (fun a => 1000000000000)
theorem rGetML0_ok : OraOk (envX Tryz.prog [] [] 63 8) (.block 0 (.loop (bodyIn Tryz.f29.body 0))) rGetML0O :=
  loop_part (envX_ok (l := []) trivial [] 63 8) (loopsOk_bare (by kernel_rfl)) (fun a => by kernel_rfl)
def rGetMT (m : List (Int × Int)) (t : Int) : RT (Option (Int)) :=
  let x1 : List (Int × Int) × Int × Int × Int × PUnit := (m, t, 0, IntKind.i64.wrap (iN (List.length m) - 1), ())
  let x2 : Option (Bool × List (Int × Int) × Int × Int × Int × PUnit) := runF true rGetML0T (fun a => 1000000000000) x1
  let x3 : Bool × List (Int × Int) × Int × Int × Int × PUnit := getO (false, x1) x2
  .br (okB x2)
  (.br x3.1
   (.leaf (some x3.2.2.2.1))
   (.leaf (some (0))))
  (.leaf none)
def rGetM (m : List (Int × Int)) (t : Int) : Int := getO rGetMRs.dflt (rGetMT m t).val
def rGetMC (m : List (Int × Int)) (t : Int) : Bool := okB (rGetMT m t).val
def rGetME : Entry := pureE rGetMTs rGetMRs (fun a => some (rGetMC a.1 a.2)) (fun a => rGetM a.1 a.2)
theorem rGetM_ok : EntryOk Tryz.prog 29 rGetME :=
  pure_part (P := Tryz.prog) (n := 63) (k := 8) (l := []) (ol := [(0, rGetML0O)]) trivial Tryz.func29 rfl (by kernel_rfl) Tryz.call29 ⟨rGetML0_ok, trivial⟩ (ts := rGetMTs) (rs := rGetMRs) (t := fun a => rGetMT a.1 a.2) (fun a => by kernel_rfl)
abbrev rPut0Ts : List Sh := [Sh.one rcCE, Sh.agg (R.pair (R.int IntKind.u16) (R.int IntKind.u8))]
abbrev rPut0Rs : Rs := Rs.one (Sh.one rcCE)
def rPut0L0c : LS := { n := 53, slots := [(3, .fix (A.loc 0 0)), (5, .tip 0), (6, .code (Sh.one R.bool)), (9, .code (Sh.one rcCE)), (10, .code (Sh.one (R.int IntKind.i64))), (11, .code (Sh.one (R.int IntKind.i64)))], boxes := [[.many (R.pair (R.int IntKind.u16) (R.int IntKind.u8))]], stgs := [⟨(R.pair (R.int IntKind.u16) (R.int IntKind.u8)), 145, true⟩] }
def rPut0L0T (a : Bool × List (Int × Int) × Int × Int × (Int × Int) × List (Int × Int) × PUnit) : RT (Option (Go1 (Bool × List (Int × Int) × Int × Int × (Int × Int) × List (Int × Int) × PUnit))) :=
  let x1 : Int × Int := R.get (R.pair (R.int IntKind.u16) (R.int IntKind.u8)) a.2.1 a.2.2.2.1
  let x2 : Int := x1.1
  let x3 : Bool := !a.1 && decide (x2 ≥ a.2.2.2.2.1.1)
  let x4 : List (Int × Int) := a.2.2.2.2.2.1 ++ [a.2.2.2.2.1]
  let x5 : Bool := !x3 || (!a.2.2.2.2.1.2 != 0 || Nat.ble (List.length x4) most)
  let x6 : Bool := x2 != a.2.2.2.2.1.1
  let x7 : List (Int × Int) := bif x3 then bif a.2.2.2.2.1.2 != 0 then x4 else a.2.2.2.2.2.1 else a.2.2.2.2.2.1
  let x8 : List (Int × Int) := x7 ++ [x1]
  .br (decide (a.2.2.2.1 < a.2.2.1))
  (.br (!inRng a.2.2.2.1 (List.length a.2.1) || (!x5 || (!x6 || Nat.ble (List.length x8) most)))
   (.br (!inRng a.2.2.2.1 (List.length a.2.1) || x5)
    (.br (inRng a.2.2.2.1 (List.length a.2.1))
     (.leaf (some (Go1.cont (x3 || a.1, a.2.1, a.2.2.1, IntKind.i64.wrap (a.2.2.2.1 + 1), a.2.2.2.2.1, bif x6 then x8 else x7, PUnit.unit))))
     (.leaf none))
    (.leaf none))
   (.leaf none))
  (.leaf (some (Go1.brk (a.1, a.2.1, a.2.2.1, a.2.2.2.1, a.2.2.2.2.1, a.2.2.2.2.2.1, PUnit.unit))))
def rPut0L0O : Ora := loopE false rPut0L0c rPut0L0T (fun a => 1000000000000)
theorem rPut0L0_ok : OraOk (envX Tryz.prog [] [] 511 8) (.block 0 (.loop (bodyIn Tryz.f118.body 0))) rPut0L0O :=
  loop_part (envX_ok (l := []) trivial [] 511 8) (loopsOk_bare (by kernel_rfl)) (fun a => by kernel_rfl)
def rPut0T (m : List (Int × Int)) (c : Int × Int) : RT (Option (List (Int × Int))) :=
  let x1 : Bool × List (Int × Int) × Int × Int × (Int × Int) × List (Int × Int) × PUnit := (false, m, iN (List.length m), 0, c, [], ())
  let x2 : Option (Bool × Bool × List (Int × Int) × Int × Int × (Int × Int) × List (Int × Int) × PUnit) := runF false rPut0L0T (fun a => 1000000000000) x1
  let x3 : Bool × List (Int × Int) × Int × Int × (Int × Int) × List (Int × Int) × PUnit := (getO (false, x1) x2).2
  let x4 : (Int × Int) × List (Int × Int) × PUnit := x3.2.2.2.2
  let x5 : Int × Int := x4.1
  let x6 : Bool := !x3.1 && x5.2 != 0
  let x7 : List (Int × Int) := x4.2.1
  let x8 : List (Int × Int) := x7 ++ [x5]
  .br (okB x2)
  (.br (!x6 || Nat.ble (List.length x8) most)
   (.leaf (some (bif x6 then x8 else x7)))
   (.leaf none))
  (.leaf none)
def rPut0 (m : List (Int × Int)) (c : Int × Int) : List (Int × Int) := getO rPut0Rs.dflt (rPut0T m c).val
def rPut0C (m : List (Int × Int)) (c : Int × Int) : Bool := okB (rPut0T m c).val
def rPut0E : Entry := pureE rPut0Ts rPut0Rs (fun a => some (rPut0C a.1 a.2)) (fun a => rPut0 a.1 a.2)
theorem rPut0_ok : EntryOk Tryz.prog 118 rPut0E :=
  pure_part (P := Tryz.prog) (n := 511) (k := 8) (l := []) (ol := [(0, rPut0L0O)]) trivial Tryz.func118 rfl (by kernel_rfl) Tryz.call118 ⟨rPut0L0_ok, trivial⟩ (ts := rPut0Ts) (rs := rPut0Rs) (t := fun a => rPut0T a.1 a.2) (fun a => by kernel_rfl)
abbrev rNormTs : List Sh := [Sh.one rcCE]
abbrev rNormRs : Rs := Rs.one (Sh.one rcCE)
def rNormL0c : LS := { n := 21, slots := [(3, .code (Sh.one rcCE)), (10, .code (Sh.one rcCE)), (11, .code (Sh.one (R.int IntKind.i64))), (12, .code (Sh.one (R.int IntKind.i64)))], boxes := [], stgs := [] }
def rNormL0T (a : List (Int × Int) × List (Int × Int) × Int × Int × PUnit) : RT (Option (Go1 (List (Int × Int) × List (Int × Int) × Int × Int × PUnit))) :=
  let x1 : Int × Int := R.get (R.pair (R.int IntKind.u16) (R.int IntKind.u8)) a.2.1 a.2.2.2.1
  .br (decide (a.2.2.2.1 < a.2.2.1))
  (.br (!inRng a.2.2.2.1 (List.length a.2.1) || rPut0C a.1 x1)
   (.br (inRng a.2.2.2.1 (List.length a.2.1))
    (.leaf (some (Go1.cont (rPut0 a.1 x1, a.2.1, a.2.2.1, IntKind.i64.wrap (a.2.2.2.1 + 1), PUnit.unit))))
    (.leaf none))
   (.leaf none))
  (.leaf (some (Go1.brk (a.1, a.2.1, a.2.2.1, a.2.2.2.1, PUnit.unit))))
def rNormL0O : Ora := loopE false rNormL0c rNormL0T (fun a => 1000000000000)
theorem rNormL0_ok : OraOk (envX Tryz.prog [(36, rValidE), (118, rPut0E)] [] 63 8) (.block 0 (.loop (bodyIn Tryz.f68.body 0))) rNormL0O :=
  loop_part (envX_ok (l := [(36, rValidE), (118, rPut0E)]) ⟨rValid_ok, rPut0_ok, trivial⟩ [] 63 8) (loopsOk_bare (by kernel_rfl)) (fun a => by kernel_rfl)
def rNormT (l : List (Int × Int)) : RT (Option (List (Int × Int))) :=
  let x1 : Option (Bool × List (Int × Int) × List (Int × Int) × Int × Int × PUnit) := runF false rNormL0T (fun a => 1000000000000) ([], l, iN (List.length l), 0, ())
  .br (rValidC l)
  (.br (!rValid l || Nat.ble (List.length ([] ++ l)) most)
   (.br (rValid l)
    (.leaf (some ([] ++ l)))
    (.br (okB x1)
     (.leaf (some (getO (false, [], l, iN (List.length l), 0, ()) x1).2.1))
     (.leaf none)))
   (.leaf none))
  (.leaf none)
def rNorm (l : List (Int × Int)) : List (Int × Int) := getO rNormRs.dflt (rNormT l).val
def rNormC (l : List (Int × Int)) : Bool := okB (rNormT l).val
def rNormE : Entry := pureE rNormTs rNormRs (fun a => some (rNormC a)) (fun a => rNorm a)
theorem rNorm_ok : EntryOk Tryz.prog 68 rNormE :=
  pure_part (P := Tryz.prog) (n := 63) (k := 8) (l := [(36, rValidE), (118, rPut0E)]) (ol := [(0, rNormL0O)]) ⟨rValid_ok, rPut0_ok, trivial⟩ Tryz.func68 rfl (by kernel_rfl) Tryz.call68 ⟨rNormL0_ok, trivial⟩ (ts := rNormTs) (rs := rNormRs) (t := fun a => rNormT a) (fun a => by kernel_rfl)
abbrev rLoadTs : List Sh := [Sh.one (R.int IntKind.u16), Sh.one (R.sl (R.int IntKind.u8))]
abbrev rLoadRs : Rs := Rs.one (Sh.one rcCE)
def rLoadL0c : LS := { n := 27, slots := [(0, .code (Sh.one (R.int IntKind.u16))), (1, .code (Sh.one (R.sl (R.int IntKind.u8)))), (5, .tip 0), (8, .code (Sh.one (R.int IntKind.i64))), (9, .code (Sh.one (R.int IntKind.i64)))], boxes := [], stgs := [⟨(R.pair (R.int IntKind.u16) (R.int IntKind.u8)), 145, true⟩] }
def rLoadL0T (a : Int × List Int × Int × Int × List (Int × Int) × PUnit) : RT (Option (Go1 (Int × List Int × Int × Int × List (Int × Int) × PUnit))) :=
  let x1 : List (Int × Int) := a.2.2.2.2.1 ++ [(IntKind.u16.wrap (a.1 + IntKind.u16.wrap a.2.2.2.1), R.get (R.int IntKind.u8) a.2.1 a.2.2.2.1)]
  let x2 : Bool := !inRng a.2.2.2.1 (List.length a.2.1) || Nat.ble (List.length x1) most
  .br (decide (a.2.2.2.1 < a.2.2.1))
  (.br (!x2 || inRng a.2.2.2.1 (List.length a.2.1))
   (.br (x2)
    (.leaf (some (Go1.cont (a.1, a.2.1, a.2.2.1, IntKind.i64.wrap (a.2.2.2.1 + 1), x1, PUnit.unit))))
    (.leaf none))
   (.leaf none))
  (.leaf (some (Go1.brk (a.1, a.2.1, a.2.2.1, a.2.2.2.1, a.2.2.2.2.1, PUnit.unit))))
def rLoadL0O : Ora := loopE false rLoadL0c rLoadL0T (fun a => 1000000000000)
theorem rLoadL0_ok : OraOk (envX Tryz.prog [(68, rNormE)] [] 127 8) (.block 0 (.loop (bodyIn Tryz.f27.body 0))) rLoadL0O :=
  loop_part (envX_ok (l := [(68, rNormE)]) ⟨rNorm_ok, trivial⟩ [] 127 8) (loopsOk_bare (by kernel_rfl)) (fun a => by kernel_rfl)
def rLoadT (t : Int) (b : List Int) : RT (Option (List (Int × Int))) :=
  let x1 : Option (Bool × Int × List Int × Int × Int × List (Int × Int) × PUnit) := runF false rLoadL0T (fun a => 1000000000000) (t, b, iN (List.length b), 0, [], ())
  let x2 : List (Int × Int) := (getO (false, t, b, iN (List.length b), 0, [], ()) x1).2.2.2.2.2.1
  .br (okB x1)
  (.br (rNormC x2)
   (.leaf (some (rNorm x2)))
   (.leaf none))
  (.leaf none)
def rLoad (t : Int) (b : List Int) : List (Int × Int) := getO rLoadRs.dflt (rLoadT t b).val
def rLoadC (t : Int) (b : List Int) : Bool := okB (rLoadT t b).val
def rLoadE : Entry := pureE rLoadTs rLoadRs (fun a => some (rLoadC a.1 a.2)) (fun a => rLoad a.1 a.2)
theorem rLoad_ok : EntryOk Tryz.prog 27 rLoadE :=
  pure_part (P := Tryz.prog) (n := 127) (k := 8) (l := [(68, rNormE)]) (ol := [(0, rLoadL0O)]) ⟨rNorm_ok, trivial⟩ Tryz.func27 rfl (by kernel_rfl) Tryz.call27 ⟨rLoadL0_ok, trivial⟩ (ts := rLoadTs) (rs := rLoadRs) (t := fun a => rLoadT a.1 a.2) (fun a => by kernel_rfl)
abbrev rSameMTs : List Sh := [Sh.one rcCE, Sh.one rcCE]
abbrev rSameMRs : Rs := Rs.one (Sh.one R.bool)
def rSameML0c : LS := { n := 26, slots := [(0, .code (Sh.one rcCE)), (1, .code (Sh.one rcCE)), (4, .code (Sh.one R.bool)), (12, .code (Sh.one (R.int IntKind.i64))), (13, .code (Sh.one (R.int IntKind.i64)))], boxes := [], stgs := [] }
def rSameML0T (a : List (Int × Int) × List (Int × Int) × Bool × Int × Int × PUnit) : RT (Option (Go1 (List (Int × Int) × List (Int × Int) × Bool × Int × Int × PUnit))) :=
  let x1 : Bool := !inRng a.2.2.2.2.1 (List.length a.1) || inRng a.2.2.2.2.1 (List.length a.2.1)
  let x2 : Int × Int := R.get (R.pair (R.int IntKind.u16) (R.int IntKind.u8)) a.1 a.2.2.2.2.1
  let x3 : Int × Int := R.get (R.pair (R.int IntKind.u16) (R.int IntKind.u8)) a.2.1 a.2.2.2.2.1
  let x4 : Int × Int × PUnit := (a.2.2.2.1, a.2.2.2.2.1, PUnit.unit)
  .br (decide (a.2.2.2.2.1 < a.2.2.2.1))
  (.br (!x1 || inRng a.2.2.2.2.1 (List.length a.1))
   (.br (x1)
    (.br (!(x2.1 == x3.1 && (x2.2 == x3.2 && true)))
     (.leaf (some (Go1.ret (a.1, a.2.1, false, x4))))
     (.leaf (some (Go1.cont (a.1, a.2.1, a.2.2.1, a.2.2.2.1, IntKind.i64.wrap (a.2.2.2.2.1 + 1), PUnit.unit)))))
    (.leaf none))
   (.leaf none))
  (.leaf (some (Go1.brk (a.1, a.2.1, a.2.2.1, x4))))
def rSameML0O : Ora := loopE true rSameML0c rSameML0T (fun a => 1000000000000)
theorem rSameML0_ok : OraOk (envX Tryz.prog [] [] 63 8) (.block 0 (.loop (bodyIn Tryz.f25.body 0))) rSameML0O :=
  loop_part (envX_ok (l := []) trivial [] 63 8) (loopsOk_bare (by kernel_rfl)) (fun a => by kernel_rfl)
def rSameMT (a : List (Int × Int)) (b : List (Int × Int)) : RT (Option (Bool)) :=
  let x1 : Option (Bool × List (Int × Int) × List (Int × Int) × Bool × Int × Int × PUnit) := runF true rSameML0T (fun a_1 => 1000000000000) (a, b, false, iN (List.length a), 0, ())
  let x2 : Bool × List (Int × Int) × List (Int × Int) × Bool × Int × Int × PUnit := getO (false, a, b, false, iN (List.length a), 0, ()) x1
  .br (iN (List.length a) != iN (List.length b))
  (.leaf (some (false)))
  (.br (okB x1)
   (.br x2.1
    (.leaf (some x2.2.2.2.1))
    (.leaf (some (true))))
   (.leaf none))
def rSameM (a : List (Int × Int)) (b : List (Int × Int)) : Bool := getO rSameMRs.dflt (rSameMT a b).val
def rSameMC (a : List (Int × Int)) (b : List (Int × Int)) : Bool := okB (rSameMT a b).val
def rSameME : Entry := pureE rSameMTs rSameMRs (fun a => some (rSameMC a.1 a.2)) (fun a => rSameM a.1 a.2)
theorem rSameM_ok : EntryOk Tryz.prog 25 rSameME :=
  pure_part (P := Tryz.prog) (n := 63) (k := 8) (l := []) (ol := [(0, rSameML0O)]) trivial Tryz.func25 rfl (by kernel_rfl) Tryz.call25 ⟨rSameML0_ok, trivial⟩ (ts := rSameMTs) (rs := rSameMRs) (t := fun a => rSameMT a.1 a.2) (fun a => by kernel_rfl)
abbrev rFindRs : Rs := Rs.one (Sh.one (R.int IntKind.i64))
def rFindL0T (a : Int × Int × List (Int × Int × Bool × Int) × Int × Int × PUnit) : RT (Option (Go1 (Int × Int × List (Int × Int × Bool × Int) × Int × Int × PUnit))) :=
  let x1 : Int × Int × Bool × Int := R.get (R.pair (R.int IntKind.u16) (R.pair (R.int IntKind.u16) (R.pair R.bool (R.int IntKind.i64)))) a.2.2.1 a.2.2.2.2.1
  let x2 : List (Int × Int × Bool × Int) × Int × Int × PUnit := (a.2.2.1, a.2.2.2.1, a.2.2.2.2.1, PUnit.unit)
  .br (decide (a.2.2.2.2.1 < a.2.2.2.1))
  (.br (inRng a.2.2.2.2.1 (List.length a.2.2.1))
   (.br (decide (x1.1 ≤ a.1) && decide (a.1 ≤ x1.2.1))
    (.leaf (some (Go1.ret (a.1, a.2.2.2.2.1, x2))))
    (.leaf (some (Go1.cont (a.1, a.2.1, a.2.2.1, a.2.2.2.1, IntKind.i64.wrap (a.2.2.2.2.1 + 1), PUnit.unit)))))
   (.leaf none))
  (.leaf (some (Go1.brk (a.1, a.2.1, x2))))
def rFindT (l : List (Int × Int × Bool × Int)) (t : Int) : RT (Option (Int)) :=
  let x1 : Option (Bool × Int × Int × List (Int × Int × Bool × Int) × Int × Int × PUnit) := runF true rFindL0T (fun a => 1000000000000) (t, 0, l, iN (List.length l), 0, ())
  let x2 : Bool × Int × Int × List (Int × Int × Bool × Int) × Int × Int × PUnit := getO (false, t, 0, l, iN (List.length l), 0, ()) x1
  .br (okB x1)
  (.br x2.1
   (.leaf (some x2.2.2.1))
   (.leaf (some (-1))))
  (.leaf none)
def rFind (l : List (Int × Int × Bool × Int)) (t : Int) : Int := getO rFindRs.dflt (rFindT l t).val
def rFindC (l : List (Int × Int × Bool × Int)) (t : Int) : Bool := okB (rFindT l t).val
abbrev pFindTs : List Sh := [Sh.one rcRG, Sh.one (R.int IntKind.u16)]
abbrev pFindRs : Rs := Rs.one (Sh.one (R.int IntKind.i64))
def pFindL0c : LS := { n := 26, slots := [(1, .code (Sh.one (R.int IntKind.u16))), (4, .code (Sh.one (R.int IntKind.i64))), (7, .code (Sh.one rcRG)), (8, .code (Sh.one (R.int IntKind.i64))), (9, .code (Sh.one (R.int IntKind.i64)))], boxes := [], stgs := [] }
def pFindL0T (a : Int × Int × List (Int × Int × Bool × Int) × Int × Int × PUnit) : RT (Option (Go1 (Int × Int × List (Int × Int × Bool × Int) × Int × Int × PUnit))) :=
  let x1 : Int × Int × Bool × Int := R.get (R.pair (R.int IntKind.u16) (R.pair (R.int IntKind.u16) (R.pair R.bool (R.int IntKind.i64)))) a.2.2.1 a.2.2.2.2.1
  let x2 : List (Int × Int × Bool × Int) × Int × Int × PUnit := (a.2.2.1, a.2.2.2.1, a.2.2.2.2.1, PUnit.unit)
  .br (decide (a.2.2.2.2.1 < a.2.2.2.1))
  (.br (inRng a.2.2.2.2.1 (List.length a.2.2.1))
   (.br (decide (x1.1 ≤ a.1) && decide (a.1 ≤ x1.2.1))
    (.leaf (some (Go1.ret (a.1, a.2.2.2.2.1, x2))))
    (.leaf (some (Go1.cont (a.1, a.2.1, a.2.2.1, a.2.2.2.1, IntKind.i64.wrap (a.2.2.2.2.1 + 1), PUnit.unit)))))
   (.leaf none))
  (.leaf (some (Go1.brk (a.1, a.2.1, x2))))
def pFindL0O : Ora := loopE true pFindL0c pFindL0T (fun a => 1000000000000)
theorem pFindL0_ok : OraOk (envX Tryz.prog [] [] 127 8) (.block 0 (.loop (bodyIn Tryz.f223.body 0))) pFindL0O :=
  loop_part (envX_ok (l := []) trivial [] 127 8) (loopsOk_bare (by kernel_rfl)) (fun a => by kernel_rfl)
def pFindT (l : List (Int × Int × Bool × Int)) (t : Int) : RT (Option (Int)) :=
  let x1 : Option (Bool × Int × Int × List (Int × Int × Bool × Int) × Int × Int × PUnit) := runF true pFindL0T (fun a => 1000000000000) (t, 0, l, iN (List.length l), 0, ())
  let x2 : Bool × Int × Int × List (Int × Int × Bool × Int) × Int × Int × PUnit := getO (false, t, 0, l, iN (List.length l), 0, ()) x1
  .br (okB x1)
  (.br x2.1
   (.leaf (some x2.2.2.1))
   (.leaf (some (-1))))
  (.leaf none)
def pFind (l : List (Int × Int × Bool × Int)) (t : Int) : Int := getO pFindRs.dflt (pFindT l t).val
def pFindC (l : List (Int × Int × Bool × Int)) (t : Int) : Bool := okB (pFindT l t).val
def pFindE : Entry := pureE pFindTs pFindRs (fun a => some (pFindC a.1 a.2)) (fun a => pFind a.1 a.2)
theorem pFind_ok : EntryOk Tryz.prog 223 pFindE :=
  pure_part (P := Tryz.prog) (n := 127) (k := 8) (l := []) (ol := [(0, pFindL0O)]) trivial Tryz.func223 rfl (by kernel_rfl) Tryz.call223 ⟨pFindL0_ok, trivial⟩ (ts := pFindTs) (rs := pFindRs) (t := fun a => pFindT a.1 a.2) (fun a => by kernel_rfl)
end
end Go.Proofs.YtpkijkmagnhciaaGreat
set_option linter.unusedVariables false
set_option linter.unusedSimpArgs false
namespace Go.Proofs.Cells
def getX (l : List Cell) (a : Int) : Int := ((flt a l).getLast?.map Prod.snd).getD 0
def Vld (m : List Cell) : Prop := m.Pairwise (fun a b => a.1 < b.1) ∧ ∀ c ∈ m, c.2 ≠ 0
theorem getX_congr {l l' : List Cell} (h : Sm l l') (a : Int) : getX l a = getX l' a := by rw [getX, getX, h a]
theorem Vld.srt {m : List Cell} (h : Vld m) : Srt m := h.1.imp fun h => Int.le_of_lt h
theorem Vld.tail {c : Cell} {m : List Cell} (h : Vld (c :: m)) : Vld m := ⟨(List.pairwise_cons.1 h.1).2, fun x hx => h.2 x (List.mem_cons_of_mem _ hx)⟩
theorem getX_nil (a : Int) : getX [] a = 0 := rfl
theorem flt_cons (a : Int) (c : Cell) (l : List Cell) : flt a (c :: l) = if c.1 = a then c :: flt a l else flt a l := by
  by_cases h : c.1 = a <;> simp [flt, h]
theorem getX_cons (c : Cell) (l : List Cell) (a : Int) : getX (c :: l) a = if c.1 = a ∧ flt a l = [] then c.2 else getX l a := by
  simp only [getX, flt_cons]
  by_cases h : c.1 = a
  · simp only [h, if_true, true_and]
    cases hf : flt a l with
    | nil => simp
    | cons x r => simp [List.getLast?_cons_cons]
  · simp [h]
theorem Vld.flt {m : List Cell} (h : Vld m) (a : Int) : Cells.flt a m = if getX m a = 0 then [] else [(a, getX m a)] := by
  induction m with
  | nil => simp [Cells.flt, getX_nil]
  | cons c m ih =>
    have ih := ih h.tail
    have h1 := List.pairwise_cons.1 h.1
    by_cases hc : c.1 = a
    · have hn : Cells.flt a m = [] := flt_nil fun x hx => by have := h1.1 x hx; omega
      have hz := h.2 c (by simp)
      rw [flt_cons, getX_cons]
      simp only [hc, hn, and_self, if_true, hz, if_false]
      rw [← hc]
    · rw [flt_cons, getX_cons]
      simp only [hc, false_and, if_false, ih]
theorem vld_ext {m m' : List Cell} (h : Vld m) (h' : Vld m') (e : ∀ a, getX m a = getX m' a) : m = m' :=
  uniq h.srt h'.srt fun k => by rw [h.flt, h'.flt, e k]
def dd : List Cell → List Cell
  | [] => []
  | x :: r => match r with
    | [] => if x.2 = 0 then [] else [x]
    | y :: _ => if x.1 = y.1 then dd r else if x.2 = 0 then dd r else x :: dd r
theorem dd_sub : ∀ {l : List Cell} {c : Cell}, c ∈ dd l → c ∈ l ∧ c.2 ≠ 0
  | [], c, h => by simp [dd] at h
  | [x], c, h => by
    simp only [dd] at h
    split at h
    · simp at h
    · rename_i hz; simp at h; subst h; exact ⟨by simp, hz⟩
  | x :: y :: r, c, h => by
    rw [dd] at h
    split at h
    · have := dd_sub h; exact ⟨List.mem_cons_of_mem _ this.1, this.2⟩
    · split at h
      · have := dd_sub h; exact ⟨List.mem_cons_of_mem _ this.1, this.2⟩
      · rename_i hz
        rcases List.mem_cons.1 h with e | e
        · subst e; exact ⟨by simp, hz⟩
        · have := dd_sub e; exact ⟨List.mem_cons_of_mem _ this.1, this.2⟩
theorem dd_vld : ∀ {l : List Cell}, Srt l → Vld (dd l)
  | [], _ => ⟨List.Pairwise.nil, fun c h => by simp [dd] at h⟩
  | [x], _ => by
    refine ⟨?_, fun c h => (dd_sub h).2⟩
    simp only [dd]; split <;> simp
  | x :: y :: r, h => by
    have h1 := List.pairwise_cons.1 h
    have ih := dd_vld (l := y :: r) h1.2
    have h2 := List.pairwise_cons.1 h1.2
    rw [dd]
    split
    · exact ih
    · rename_i hne
      split
      · exact ih
      · rename_i hz
        refine ⟨List.pairwise_cons.2 ⟨fun c hc => ?_, ih.1⟩, fun c hc => ?_⟩
        · have hxy := h1.1 y (by simp)
          rcases List.mem_cons.1 (dd_sub hc).1 with e | e
          · rw [e]; omega
          · have := h2.1 c e; omega
        · rcases List.mem_cons.1 hc with e | e
          · rw [e]; exact hz
          · exact ih.2 c e
theorem dd_get : ∀ {l : List Cell}, Srt l → ∀ a, getX (dd l) a = getX l a
  | [], _, _ => rfl
  | [x], _, a => by
    simp only [dd]
    split
    · rename_i hz; rw [getX_cons]; simp [flt, getX, hz]
    · rfl
  | x :: y :: r, h, a => by
    have h1 := List.pairwise_cons.1 h
    have ih := dd_get (l := y :: r) h1.2 a
    have h2 := List.pairwise_cons.1 h1.2
    rw [dd, getX_cons x (y :: r)]
    by_cases hxy : x.1 = y.1
    · rw [if_pos hxy, ih]
      by_cases hc : x.1 = a ∧ flt a (y :: r) = []
      · obtain ⟨e, e2⟩ := hc
        rw [flt_cons, if_pos (by rw [← hxy]; exact e)] at e2; simp at e2
      · rw [if_neg hc]
    · rw [if_neg hxy]
      have hlt : ∀ c ∈ y :: r, x.1 < c.1 := fun c hc => by
        have := h1.1 y (by simp)
        rcases List.mem_cons.1 hc with e | e
        · rw [e]; omega
        · have := h2.1 c e; omega
      by_cases hc : x.1 = a
      · have hn : flt a (y :: r) = [] := flt_nil fun c hc' => by have := hlt c hc'; omega
        have hn2 : flt a (dd (y :: r)) = [] := flt_nil fun c hc' => by have := hlt c (dd_sub hc').1; omega
        by_cases hz : x.2 = 0
        · rw [if_pos hz, if_pos ⟨hc, hn⟩, hz, getX, hn2]; rfl
        · rw [if_neg hz, if_pos ⟨hc, hn⟩, getX_cons, if_pos ⟨hc, hn2⟩]
      · by_cases hz : x.2 = 0
        · rw [if_pos hz, if_neg (fun h => hc h.1), ih]
        · rw [if_neg hz, if_neg (fun h => hc h.1), getX_cons, if_neg (fun h => hc h.1), ih]
def putX : List Cell → Cell → List Cell
  | [], c => if c.2 = 0 then [] else [c]
  | x :: r, c => if x.1 < c.1 then x :: putX r c else if c.2 = 0 then (if x.1 = c.1 then r else x :: r) else if x.1 = c.1 then c :: r else c :: x :: r
theorem putX_sub : ∀ {m : List Cell} {c x : Cell}, x ∈ putX m c → x = c ∨ x ∈ m
  | [], c, x, h => by
    simp only [putX] at h
    split at h
    · simp at h
    · left; simpa using h
  | y :: r, c, x, h => by
    simp only [putX] at h
    split at h
    · rcases List.mem_cons.1 h with e | e
      · right; simp [e]
      · rcases putX_sub e with e | e
        · exact .inl e
        · right; simp [e]
    · split at h
      · split at h
        · right; simp [h]
        · right; exact h
      · split at h
        · rcases List.mem_cons.1 h with e | e
          · exact .inl e
          · right; simp [e]
        · rcases List.mem_cons.1 h with e | e
          · exact .inl e
          · right; exact e
theorem putX_vld : ∀ {m : List Cell} {c : Cell}, Vld m → Vld (putX m c)
  | [], c, _ => by
    simp only [putX]
    split
    · exact ⟨List.Pairwise.nil, fun c h => by simp at h⟩
    · rename_i hz; exact ⟨by simp, fun x h => by simp at h; rw [h]; exact hz⟩
  | y :: r, c, h => by
    have h1 := List.pairwise_cons.1 h.1
    have hy := h.2 y (by simp)
    simp only [putX]
    split
    · rename_i hlt
      have ih := putX_vld (c := c) h.tail
      refine ⟨List.pairwise_cons.2 ⟨fun x hx => ?_, ih.1⟩, fun x hx => ?_⟩
      · rcases putX_sub hx with e | e
        · rw [e]; exact hlt
        · exact h1.1 x e
      · rcases List.mem_cons.1 hx with e | e
        · rw [e]; exact hy
        · exact ih.2 x e
    · rename_i hge
      split
      · split
        · exact h.tail
        · exact h
      · rename_i hz
        split
        · rename_i he
          refine ⟨List.pairwise_cons.2 ⟨fun x hx => ?_, h1.2⟩, fun x hx => ?_⟩
          · have := h1.1 x hx; omega
          · rcases List.mem_cons.1 hx with e | e
            · rw [e]; exact hz
            · exact h.2 x (List.mem_cons_of_mem _ e)
        · rename_i hne
          refine ⟨List.pairwise_cons.2 ⟨fun x hx => ?_, h.1⟩, fun x hx => ?_⟩
          · rcases List.mem_cons.1 hx with e | e
            · rw [e]; omega
            · have := h1.1 x e; omega
          · rcases List.mem_cons.1 hx with e | e
            · rw [e]; exact hz
            · exact h.2 x e
theorem getX_out {l : List Cell} {a : Int} (h : ∀ c ∈ l, c.1 ≠ a) : getX l a = 0 := by rw [getX, flt_nil h]; rfl
theorem vcons_get {x : Cell} {r : List Cell} (h : ∀ c ∈ r, x.1 < c.1) (a : Int) : getX (x :: r) a = if x.1 = a then x.2 else getX r a := by
  rw [getX_cons]
  by_cases hx : x.1 = a
  · have : flt a r = [] := flt_nil fun c hc => by have := h c hc; omega
    simp [hx, this]
  · simp [hx]
theorem putX_get : ∀ {m : List Cell} {c : Cell}, Vld m → ∀ a, getX (putX m c) a = if c.1 = a then c.2 else getX m a
  | [], c, _, a => by
    simp only [putX]
    split
    · rename_i hz; rw [getX_nil, hz]; simp
    · rw [vcons_get (by simp)]
  | y :: r, c, h, a => by
    have h1 := List.pairwise_cons.1 h.1
    simp only [putX]
    split
    · rename_i hlt
      rw [vcons_get (fun x hx => by
        rcases putX_sub hx with e | e
        · rw [e]; exact hlt
        · exact h1.1 x e), vcons_get h1.1, putX_get h.tail a]
      by_cases e1 : y.1 = a
      · simp only [e1, if_true]; rw [if_neg (by omega)]
      · simp [e1]
    · rename_i hge
      split
      · rename_i hz
        split
        · rename_i he
          rw [vcons_get h1.1]
          by_cases e : c.1 = a
          · rw [if_pos e, hz]
            exact getX_out fun x hx => by have := h1.1 x hx; omega
          · rw [if_neg e, if_neg (by omega)]
        · rename_i hne
          by_cases e : c.1 = a
          · rw [if_pos e, hz]
            exact getX_out fun x hx => by
              rcases List.mem_cons.1 hx with e' | e'
              · rw [e']; omega
              · have := h1.1 x e'; omega
          · rw [if_neg e]
      · split
        · rename_i he
          rw [vcons_get (fun x hx => by have := h1.1 x hx; omega), vcons_get h1.1]
          by_cases e : c.1 = a
          · simp [e]
          · rw [if_neg e, if_neg e, if_neg (by omega)]
        · rename_i hne
          rw [vcons_get (fun x hx => by
            rcases List.mem_cons.1 hx with e | e
            · rw [e]; omega
            · have := h1.1 x e; omega)]
def normX (l : List Cell) : List Cell := l.foldl putX []
theorem getX_snoc (l : List Cell) (c : Cell) (a : Int) : getX (l ++ [c]) a = if c.1 = a then c.2 else getX l a := by
  rw [getX, getX, flt_app]
  by_cases h : c.1 = a
  · have : flt a [c] = [c] := by simp [flt, h]
    rw [this, List.getLast?_append]; simp [h]
  · have : flt a [c] = [] := flt_nil fun x hx => by simp at hx; rw [hx]; exact h
    rw [this]; simp [h]
theorem fold_norm : ∀ (l : List Cell) {m : List Cell}, Vld m → Vld (l.foldl putX m) ∧ ∀ a, getX (l.foldl putX m) a = getX (m ++ l) a
  | [], m, h => ⟨h, fun a => by simp⟩
  | c :: l, m, h => by
    obtain ⟨h1, h2⟩ := fold_norm l (putX_vld (c := c) h)
    refine ⟨h1, fun a => ?_⟩
    rw [List.foldl_cons, h2 a]
    have e : m ++ c :: l = (m ++ [c]) ++ l := by simp
    rw [e]
    have key : ∀ {p q : List Cell}, (∀ b, getX p b = getX q b) → ∀ l b, getX (p ++ l) b = getX (q ++ l) b := by
      intro p q hpq l b
      simp only [getX, flt_app, List.getLast?_append]
      cases hl : (flt b l).getLast? with
      | none => simpa [getX] using hpq b
      | some x => simp
    exact key (fun b => by rw [putX_get h, getX_snoc]) l a
theorem normX_vld (l : List Cell) : Vld (normX l) := (fold_norm l ⟨List.Pairwise.nil, fun c h => by simp at h⟩).1
theorem normX_get (l : List Cell) (a : Int) : getX (normX l) a = getX l a := (fold_norm l ⟨List.Pairwise.nil, fun c h => by simp at h⟩).2 a
theorem normX_eq {l m : List Cell} (h : Vld m) (e : ∀ a, getX m a = getX l a) : normX l = m := vld_ext (normX_vld l) h fun a => by rw [normX_get, e]
theorem normX_same {m : List Cell} (h : Vld m) : normX m = m := normX_eq h fun _ => rfl
theorem normX_sort (l : List Cell) : dd (isort l) = normX l :=
  (normX_eq (dd_vld (isort_srt l)) fun a => by rw [dd_get (isort_srt l), getX_congr (isort_sm l)]).symm
end Go.Proofs.Cells
open Go Go.S3 Go.Proofs Go.Proofs.Cells
set_option linter.unusedVariables false
set_option linter.unusedSimpArgs false
set_option maxRecDepth 100000
namespace Go.Proofs.YtpkijkmagnhciaaGreat
noncomputable section
abbrev RegionT := Int × Int × Bool × Int
theorem drop_el (l : List Cell) (i : Nat) (h : i < l.length) : l.drop i = el l i :: l.drop (i + 1) := by
  rw [List.drop_eq_getElem_cons h]
  have := el_get l i h
  rw [List.getElem?_eq_getElem h, Option.some.injEq] at this
  rw [this]
theorem take_el (l : List Cell) (i : Nat) (h : i < l.length) : l.take (i + 1) = l.take i ++ [el l i] := by
  rw [List.take_add_one, el_get l i h]; rfl
theorem el_mem (l : List Cell) (i : Nat) (h : i < l.length) : el l i ∈ l := List.mem_iff_getElem?.2 ⟨i, el_get l i h⟩
def okAt (m : List Cell) (i : Nat) : Bool := !((el m i).2 == 0 || (decide ((i : Int) > 0) && decide ((el m i).1 ≤ (el m (i - 1)).1)))
def vldB (m : List Cell) : Bool := (List.range m.length).all (okAt m)
theorem vldB_false {m : List Cell} {i : Nat} (hi : i < m.length) (h : okAt m i = false) : vldB m = false := by
  rw [Bool.eq_false_iff]; intro he
  have := List.all_eq_true.1 he i (List.mem_range.2 hi)
  rw [h] at this; exact absurd this (by simp)
theorem vldB_true {m : List Cell} (h : ∀ i, i < m.length → okAt m i = true) : vldB m = true := List.all_eq_true.2 fun i hi => h i (List.mem_range.1 hi)
theorem vldB_iff {m : List Cell} : vldB m = true ↔ Vld m := by
  constructor
  · intro h
    have ha : ∀ i, i < m.length → okAt m i = true := fun i hi => List.all_eq_true.1 h i (List.mem_range.2 hi)
    have hs : ∀ i, i + 1 < m.length → (el m i).1 < (el m (i + 1)).1 := fun i hi => by
      have := ha (i + 1) hi
      simp only [okAt, Bool.not_eq_true', Bool.or_eq_false_iff, Bool.and_eq_false_iff, decide_eq_false_iff_not, Nat.add_sub_cancel] at this
      rcases this.2 with e | e
      · omega
      · omega
    refine ⟨?_, fun c hc => ?_⟩
    · rw [List.pairwise_iff_getElem]
      have key : ∀ d i, i + d + 1 < m.length → (el m i).1 < (el m (i + d + 1)).1 := by
        intro d
        induction d with
        | zero => intro i hi; exact hs i hi
        | succ d ih => intro i hi; have h1 := ih i (by omega); have h2 := hs (i + d + 1) (by omega); rw [show i + (d + 1) + 1 = i + d + 1 + 1 by omega]; omega
      intro i j hi hj hij
      have := key (j - i - 1) i (by omega)
      rw [show i + (j - i - 1) + 1 = j by omega] at this
      have e1 := el_get m i hi
      have e2 := el_get m j hj
      rw [List.getElem?_eq_getElem hi, Option.some.injEq] at e1
      rw [List.getElem?_eq_getElem hj, Option.some.injEq] at e2
      rw [e1, e2]; exact this
    · obtain ⟨i, hi⟩ := List.mem_iff_getElem?.1 hc
      have hlt := (List.getElem?_eq_some_iff.1 hi).1
      rw [el_get m i hlt, Option.some.injEq] at hi
      have := ha i hlt
      rw [← hi]
      simp only [okAt, Bool.not_eq_true', Bool.or_eq_false_iff, beq_eq_false_iff_ne] at this
      exact this.1
  · intro h
    refine vldB_true fun i hi => ?_
    simp only [okAt, Bool.not_eq_true', Bool.or_eq_false_iff, beq_eq_false_iff_ne, Bool.and_eq_false_iff, decide_eq_false_iff_not]
    refine ⟨h.2 _ (el_mem m i hi), ?_⟩
    by_cases h0 : i = 0
    · left; omega
    · right
      have := List.pairwise_iff_getElem.1 h.1 (i - 1) i (by omega) hi (by omega)
      have e1 := el_get m (i - 1) (by omega)
      have e2 := el_get m i hi
      rw [List.getElem?_eq_getElem (by omega), Option.some.injEq] at e1
      rw [List.getElem?_eq_getElem hi, Option.some.injEq] at e2
      rw [e1, e2] at this; omega
theorem wsub1 (i : Nat) (h : 0 < i) (h2 : i ≤ 4611686018427387904) : IntKind.wrap .i64 ((i : Int) - 1) = ((i - 1 : Nat) : Int) := by rw [wrap_i64 _ (by omega) (by omega)]; omega
theorem okAt_eq (m : List Cell) (i : Nat) : ((el m i).2 == 0 || (decide ((i : Int) > 0) && decide ((el m i).1 ≤ (el m (i - 1)).1))) = !okAt m i := by simp only [okAt, Bool.not_not]
theorem mvalid_run (m : List Cell) (hm : m.length ≤ most) : (mValidT m).val = some (vldB m) := by
  have hms := mst
  obtain ⟨r, hr, hR⟩ := runF_ind (fl := true) (t := mValidL0T) (fuel := fun a => 1000000000000)
    (I := fun a => ∃ i : Nat, i ≤ m.length ∧ (∀ k, k < i → okAt m k = true) ∧ a = (m, false, m, (m.length : Int), (i : Int), ()))
    (m := fun a => Int.toNat (a.2.2.2.1 - a.2.2.2.2.1)) (R := fun r => (r.1 = false ∧ vldB m = true) ∨ (r.1 = true ∧ vldB m = false ∧ r.2.2.1 = false))
    (fun a hi => by
      obtain ⟨i, hi, hk, rfl⟩ := hi
      by_cases hlt : i < m.length
      · have d : decide ((i : Int) < (m.length : Int)) = true := by simpa using hlt
        have r1 := rng_nat m i hlt
        have hw : decide ((i : Int) > 0) = true → inRng (IntKind.wrap .i64 ((i : Int) - 1)) m.length = true ∧ IntKind.wrap .i64 ((i : Int) - 1) = ((i - 1 : Nat) : Int) := fun h => by
          simp only [decide_eq_true_eq] at h
          have e := wsub1 i (by omega) (by omega)
          exact ⟨by rw [e]; exact rng_nat m (i - 1) (by omega), e⟩
        have hck : ((el m i).2 == 0 || (!decide ((i : Int) > 0) || inRng (IntKind.wrap .i64 ((i : Int) - 1)) m.length)) = true := by
          cases h : decide ((i : Int) > 0) with
          | false => simp
          | true => rw [(hw h).1]; simp
        have hcd : ((el m i).2 == 0 || (decide ((i : Int) > 0) && decide ((el m i).1 ≤ (R.get CR m (IntKind.wrap .i64 ((i : Int) - 1))).1))) = !okAt m i := by
          rw [← okAt_eq]
          cases h : decide ((i : Int) > 0) with
          | false => simp
          | true => rw [(hw h).2, get_el]
        cases ho : okAt m i with
        | true =>
          left
          refine ⟨(m, false, m, (m.length : Int), ((i + 1 : Nat) : Int), ()), ?_, ⟨i + 1, hlt, fun k hk' => ?_, rfl⟩, by simp only; omega⟩
          · rw [ho] at hcd
            simp only [mValidL0T, RT.val, d, r1, get_el, hck, hcd, Bool.not_true, Bool.false_or, cond_true, cond_false, wadd1 i (by omega)]
          · by_cases e : k = i
            · subst e; exact ho
            · exact hk k (by omega)
        | false =>
          right; right
          refine ⟨(m, false, m, (m.length : Int), (i : Int), ()), rfl, ?_, .inr ⟨rfl, vldB_false hlt ho, rfl⟩⟩
          rw [ho] at hcd
          simp only [mValidL0T, RT.val, d, r1, get_el, hck, hcd, Bool.not_true, Bool.not_false, Bool.false_or, cond_true, cond_false]
      · right; left
        have d : decide ((i : Int) < (m.length : Int)) = false := by simpa using hlt
        exact ⟨(m, false, m, (m.length : Int), (i : Int), ()), by simp only [mValidL0T, RT.val, d, cond_false], .inl ⟨rfl, vldB_true fun k hk' => hk k (by omega)⟩⟩)
    (m, false, m, (m.length : Int), 0, ()) ⟨0, Nat.zero_le _, fun k h => by omega, rfl⟩ (by simp only; omega)
  have hr' : runF true mValidL0T (fun a => 1000000000000) (m, false, m, iN m.length, 0, ()) = some r := hr
  rcases hR with ⟨h1, h2⟩ | ⟨h1, h2, h3⟩
  · simp only [mValidT, RT.val, hr', okB, getO, cond_true, h1, cond_false, h2]
  · simp only [mValidT, RT.val, hr', okB, getO, cond_true, h1, h2, h3]
theorem rvalid_run (m : List Cell) (hm : m.length ≤ most) : (rValidT m).val = some (vldB m) := by
  have hms := mst
  obtain ⟨r, hr, hR⟩ := runF_ind (fl := true) (t := rValidL0T) (fuel := fun a => 1000000000000)
    (I := fun a => ∃ i : Nat, i ≤ m.length ∧ (∀ k, k < i → okAt m k = true) ∧ a = (m, false, (m.length : Int), (i : Int), ()))
    (m := fun a => Int.toNat (a.2.2.1 - a.2.2.2.1)) (R := fun r => (r.1 = false ∧ vldB m = true) ∨ (r.1 = true ∧ vldB m = false ∧ r.2.2.1 = false))
    (fun a hi => by
      obtain ⟨i, hi, hk, rfl⟩ := hi
      by_cases hlt : i < m.length
      · have d : decide ((i : Int) < (m.length : Int)) = true := by simpa using hlt
        have r1 := rng_nat m i hlt
        have hw : decide ((i : Int) > 0) = true → inRng (IntKind.wrap .i64 ((i : Int) - 1)) m.length = true ∧ IntKind.wrap .i64 ((i : Int) - 1) = ((i - 1 : Nat) : Int) := fun h => by
          simp only [decide_eq_true_eq] at h
          have e := wsub1 i (by omega) (by omega)
          exact ⟨by rw [e]; exact rng_nat m (i - 1) (by omega), e⟩
        have hck : ((el m i).2 == 0 || (!decide ((i : Int) > 0) || inRng (IntKind.wrap .i64 ((i : Int) - 1)) m.length)) = true := by
          cases h : decide ((i : Int) > 0) with
          | false => simp
          | true => rw [(hw h).1]; simp
        have hcd : ((el m i).2 == 0 || (decide ((i : Int) > 0) && decide ((el m i).1 ≤ (R.get CR m (IntKind.wrap .i64 ((i : Int) - 1))).1))) = !okAt m i := by
          rw [← okAt_eq]
          cases h : decide ((i : Int) > 0) with
          | false => simp
          | true => rw [(hw h).2, get_el]
        cases ho : okAt m i with
        | true =>
          left
          refine ⟨(m, false, (m.length : Int), ((i + 1 : Nat) : Int), ()), ?_, ⟨i + 1, hlt, fun k hk' => ?_, rfl⟩, by simp only; omega⟩
          · rw [ho] at hcd
            simp only [rValidL0T, RT.val, d, r1, get_el, hck, hcd, Bool.not_true, Bool.false_or, Bool.or_true, cond_true, cond_false, wadd1 i (by omega)]
          · by_cases e : k = i
            · subst e; exact ho
            · exact hk k (by omega)
        | false =>
          right; right
          refine ⟨(m, false, (m.length : Int), (i : Int), ()), rfl, ?_, .inr ⟨rfl, vldB_false hlt ho, rfl⟩⟩
          rw [ho] at hcd
          simp only [rValidL0T, RT.val, d, r1, get_el, hck, hcd, Bool.not_true, Bool.not_false, Bool.false_or, Bool.or_true, cond_true, cond_false]
      · right; left
        have d : decide ((i : Int) < (m.length : Int)) = false := by simpa using hlt
        exact ⟨(m, false, (m.length : Int), (i : Int), ()), by simp only [rValidL0T, RT.val, d, cond_false], .inl ⟨rfl, vldB_true fun k hk' => hk k (by omega)⟩⟩)
    (m, false, (m.length : Int), 0, ()) ⟨0, Nat.zero_le _, fun k h => by omega, rfl⟩ (by simp only; omega)
  have hr' : runF true rValidL0T (fun a => 1000000000000) (m, false, iN m.length, 0, ()) = some r := hr
  rcases hR with ⟨h1, h2⟩ | ⟨h1, h2, h3⟩
  · simp only [rValidT, RT.val, hr', okB, getO, cond_true, h1, cond_false, h2]
  · simp only [rValidT, RT.val, hr', okB, getO, cond_true, h1, h2, h3]
theorem getX_at {m : List Cell} {t : Int} {i : Nat} (hi : i < m.length) (he : (el m i).1 = t) (hk : ∀ k, i < k → k < m.length → (el m k).1 ≠ t) : getX m t = (el m i).2 := by
  have e : m = m.take i ++ [el m i] ++ m.drop (i + 1) := by rw [List.append_assoc, List.singleton_append, ← drop_el m i hi, List.take_append_drop]
  have h0 : flt t (m.drop (i + 1)) = [] := flt_nil fun c hc => by
    obtain ⟨k, h1, h2, rfl⟩ := mem_drop hc
    exact hk k (by omega) h2
  have h1 : flt t [el m i] = [el m i] := by simp [flt, he]
  have h2 : flt t m = flt t (m.take i) ++ [el m i] := by
    conv => lhs; rw [e, flt_app, flt_app, h0, h1, List.append_nil]
  rw [getX, h2, List.getLast?_append]; simp
theorem rget_run (m : List Cell) (t : Int) (hm : m.length ≤ most) : (rGetMT m t).val = some (getX m t) := by
  have hms := mst
  obtain ⟨r, hr, hR⟩ := runF_ind (fl := true) (t := rGetML0T) (fuel := fun a => 1000000000000)
    (I := fun a => ∃ i : Nat, i ≤ m.length ∧ (∀ k, i ≤ k → k < m.length → (el m k).1 ≠ t) ∧ a = (m, t, 0, (i : Int) - 1, ()))
    (m := fun a => Int.toNat (a.2.2.2.1 + 1)) (R := fun r => (r.1 = false ∧ getX m t = 0) ∨ (r.1 = true ∧ r.2.2.2.1 = getX m t))
    (fun a hi => by
      obtain ⟨i, hi, hk, rfl⟩ := hi
      cases i with
      | zero =>
        right; left
        refine ⟨(m, t, 0, ((0 : Nat) : Int) - 1, ()), by simp [rGetML0T, RT.val], .inl ⟨rfl, getX_out fun c hc => ?_⟩⟩
        obtain ⟨k, hk'⟩ := List.mem_iff_getElem?.1 hc
        have hlt := (List.getElem?_eq_some_iff.1 hk').1
        rw [el_get m k hlt, Option.some.injEq] at hk'
        rw [← hk']; exact hk k (Nat.zero_le _) hlt
      | succ i =>
        have ei : ((i + 1 : Nat) : Int) - 1 = (i : Int) := by omega
        rw [ei]
        have d : decide ((i : Int) ≥ 0) = true := by simp
        have r1 := rng_nat m i (by omega)
        cases he : ((el m i).1 == t) with
        | true =>
          right; right
          refine ⟨(m, t, (el m i).2, (i : Int), ()), rfl, by simp only [rGetML0T, RT.val, d, r1, get_el, he, cond_true, Bool.not_true, Bool.false_or], .inr ⟨rfl, ?_⟩⟩
          exact (getX_at (by omega) (by simpa using he) fun k h1 h2 => hk k (by omega) h2).symm
        | false =>
          left
          refine ⟨(m, t, 0, (i : Int) - 1, ()), ?_, ⟨i, by omega, fun k h1 h2 => ?_, rfl⟩, by simp only; omega⟩
          · have w : IntKind.wrap .i64 ((i : Int) - 1) = (i : Int) - 1 := wrap_i64 _ (by omega) (by omega)
            simp only [rGetML0T, RT.val, d, r1, get_el, he, cond_true, cond_false, Bool.not_true, Bool.not_false, Bool.true_or, Bool.false_or, w]
          · by_cases e : k = i
            · subst e; simpa using he
            · exact hk k (by omega) h2)
    (m, t, 0, (m.length : Int) - 1, ()) ⟨m.length, Nat.le_refl _, fun k h1 h2 => by omega, rfl⟩ (by simp only; omega)
  have w : IntKind.wrap .i64 (iN m.length - 1) = (m.length : Int) - 1 := wrap_i64 _ (by simp only [iN]; omega) (by simp only [iN]; omega)
  rcases hR with ⟨h1, h2⟩ | ⟨h1, h2⟩
  · simp only [rGetMT, RT.val, w, hr, okB, getO, cond_true, h1, cond_false, h2]
  · simp only [rGetMT, RT.val, w, hr, okB, getO, cond_true, h1, h2]
end
end Go.Proofs.YtpkijkmagnhciaaGreat
open Go Go.S3 Go.Proofs Go.Proofs.Cells
set_option linter.unusedVariables false
set_option linter.unusedSimpArgs false
set_option maxRecDepth 100000
namespace Go.Proofs.YtpkijkmagnhciaaGreat
noncomputable section
def pst (c : Cell) (s : Bool × List Cell) (x : Cell) : Bool × List Cell :=
  let t := !s.1 && decide (x.1 ≥ c.1)
  let o := bif t then (bif c.2 != 0 then s.2 ++ [c] else s.2) else s.2
  (t || s.1, bif x.1 != c.1 then o ++ [x] else o)
def pfin (c : Cell) (s : Bool × List Cell) : List Cell := bif !s.1 && c.2 != 0 then s.2 ++ [c] else s.2
theorem pst_done (c : Cell) : ∀ (m : List Cell) (o : List Cell), (∀ x ∈ m, x.1 ≠ c.1) → m.foldl (pst c) (true, o) = (true, o ++ m)
  | [], o, _ => by simp
  | x :: m, o, h => by
    have hx : (x.1 != c.1) = true := by simpa using h x (by simp)
    simp only [List.foldl_cons, pst, Bool.not_true, Bool.false_and, cond_false, Bool.or_true, hx, cond_true]
    rw [pst_done c m (o ++ [x]) fun y hy => h y (List.mem_cons_of_mem _ hy)]
    simp
theorem pst_put (c : Cell) : ∀ (m : List Cell) (o : List Cell), m.Pairwise (fun a b => a.1 < b.1) → pfin c (m.foldl (pst c) (false, o)) = o ++ putX m c
  | [], o, _ => by
    simp only [List.foldl_nil, pfin, putX, Bool.not_false, Bool.true_and]
    by_cases h : c.2 = 0
    · simp [h]
    · have : (c.2 != 0) = true := by simpa using h
      simp [h, this]
  | x :: m, o, h => by
    have h1 := List.pairwise_cons.1 h
    by_cases hx : x.1 < c.1
    · have e1 : decide (x.1 ≥ c.1) = false := by simp; omega
      have e2 : (x.1 != c.1) = true := by simp; omega
      simp only [List.foldl_cons, pst, e1, Bool.and_false, cond_false, Bool.or_false, e2, cond_true]
      rw [pst_put c m (o ++ [x]) h1.2, putX, if_pos hx]; simp
    · have e1 : decide (x.1 ≥ c.1) = true := by simp; omega
      have hne : ∀ y ∈ m, y.1 ≠ c.1 := fun y hy => by have := h1.1 y hy; omega
      simp only [List.foldl_cons, pst, e1, Bool.not_false, Bool.and_self, cond_true, Bool.true_or]
      rw [pst_done c m _ hne, putX, if_neg hx]
      simp only [pfin, Bool.not_true, Bool.false_and, cond_false]
      by_cases hz : c.2 = 0
      · by_cases hk : x.1 = c.1
        · simp [hz, hk]
        · have : (x.1 != c.1) = true := by simpa using hk
          simp [hz, hk, this]
      · have hz1 : (c.2 != 0) = true := by simpa using hz
        by_cases hk : x.1 = c.1
        · simp [hz, hk, hz1]
        · have : (x.1 != c.1) = true := by simpa using hk
          simp [hz, hk, this, hz1]
theorem pst_len (c : Cell) : ∀ (m : List Cell) (s : Bool × List Cell), (m.foldl (pst c) s).2.length + (bif (m.foldl (pst c) s).1 then 0 else 1) ≤ s.2.length + (bif s.1 then 0 else 1) + m.length
  | [], s => by simp
  | x :: m, s => by
    rw [List.foldl_cons]
    have ih := pst_len c m (pst c s x)
    have : (pst c s x).2.length + (bif (pst c s x).1 then 0 else 1) ≤ s.2.length + (bif s.1 then 0 else 1) + 1 := by
      obtain ⟨d, o⟩ := s
      simp only [pst]
      generalize decide (x.1 ≥ c.1) = b1
      generalize (c.2 != 0) = b2
      generalize (x.1 != c.1) = b3
      cases d <;> cases b1 <;> cases b2 <;> cases b3 <;> simp <;> omega
    simp only [List.length_cons]; omega
theorem rput0_run (m : List Cell) (c : Cell) (hv : Vld m) (hm : m.length + 1 ≤ most) : rPut0C m c = true ∧ rPut0 m c = putX m c := by
  have hms := mst
  obtain ⟨r, hr, h1, i, hR⟩ := runF_ind (fl := false) (t := rPut0L0T) (fuel := fun a => 1000000000000)
    (fun a => ∃ i : Nat, i ≤ m.length ∧ a = (((m.take i).foldl (pst c) (false, [])).1, m, (m.length : Int), (i : Int), c, ((m.take i).foldl (pst c) (false, [])).2, ()))
    (fun a => Int.toNat (a.2.2.1 - a.2.2.2.1)) (fun r => r.1 = false ∧ ∃ i : Nat, r.2 = ((m.foldl (pst c) (false, [])).1, m, (m.length : Int), (i : Int), c, (m.foldl (pst c) (false, [])).2, ()))
    (by
      rintro a ⟨i, hi, rfl⟩
      by_cases hlt : i < m.length
      · left
        have d : decide ((i : Int) < (m.length : Int)) = true := by simpa using hlt
        have r1 := rng_nat m i hlt
        have hl := pst_len c (m.take i) (false, [])
        have hs : (m.take (i + 1)).foldl (pst c) (false, []) = pst c ((m.take i).foldl (pst c) (false, [])) (el m i) := by
          rw [take_el m i hlt, List.foldl_append]; rfl
        rw [List.length_take, Nat.min_eq_left (by omega)] at hl
        refine ⟨_, ?_, ⟨i + 1, hlt, rfl⟩, by simp only; omega⟩
        rw [hs]
        generalize (m.take i).foldl (pst c) (false, []) = s at hl ⊢
        obtain ⟨dn, o⟩ := s
        simp only [List.length_nil, cond_false] at hl
        simp only [rPut0L0T, RT.val, d, r1, get_el, cond_true, Bool.not_true, Bool.false_or, pst, wadd1 i (by omega)]
        generalize decide ((el m i).1 ≥ c.1) = b1
        generalize hb2 : (c.2 != 0) = b2
        generalize hb3 : ((el m i).1 != c.1) = b3
        have l1 : Nat.ble (o ++ [c]).length most = true ∨ dn = true := by
          cases dn with
          | true => exact .inr rfl
          | false => left; rw [Nat.ble_eq]; simp only [cond_false] at hl; simp only [List.length_append, List.length_singleton]; omega
        have l2 : Nat.ble (o ++ [el m i]).length most = true := by
          rw [Nat.ble_eq]; simp only [List.length_append, List.length_singleton]
          cases dn <;> simp only [cond_true, cond_false] at hl <;> omega
        have l3 : Nat.ble (o ++ [c] ++ [el m i]).length most = true ∨ dn = true := by
          cases dn with
          | true => exact .inr rfl
          | false => left; rw [Nat.ble_eq]; simp only [cond_false] at hl; simp only [List.length_append, List.length_singleton]; omega
        cases dn with
        | true =>
          cases b3 <;> simp only [l2, Bool.not_true, Bool.not_false, Bool.false_and, Bool.true_or, Bool.false_or, Bool.or_true, cond_true, cond_false]
        | false =>
          have l1 : Nat.ble (o ++ [c]).length most = true := by simpa using l1
          have l3 : Nat.ble (o ++ [c] ++ [el m i]).length most = true := by simpa using l3
          cases b1 <;> cases b2 <;> cases b3 <;> simp only [l1, l2, l3, Bool.not_true, Bool.not_false, Bool.false_and, Bool.true_and, Bool.true_or, Bool.false_or, Bool.or_true, Bool.or_false, Bool.and_self, cond_true, cond_false]
      · right; left
        have d : decide ((i : Int) < (m.length : Int)) = false := by simpa using hlt
        have e : m.take i = m := List.take_of_length_le (by omega)
        rw [e]
        exact ⟨_, by simp only [rPut0L0T, RT.val, d, cond_false], rfl, i, rfl⟩)
    (false, m, iN m.length, 0, c, [], ()) ⟨0, Nat.zero_le _, rfl⟩ (by simp only [iN]; omega)
  have hl := pst_len c m (false, [])
  have hp := pst_put c m [] hv.1
  simp only [List.nil_append] at hp
  obtain ⟨r1, r2⟩ := r
  simp only at h1 hR
  subst h1 hR
  generalize m.foldl (pst c) (false, []) = s at hl hp hr
  obtain ⟨dn, o⟩ := s
  have hb : (!(!dn && c.2 != 0) || Nat.ble (o ++ [c]).length most) = true := by
    cases dn with
    | true => rfl
    | false =>
      have : Nat.ble (o ++ [c]).length most = true := by rw [Nat.ble_eq]; simp only [cond_false, List.length_nil] at hl; simp only [List.length_append, List.length_singleton]; omega
      rw [this]; simp
  have hv : (rPut0T m c).val = some (putX m c) := by
    simp only [rPut0T, RT.val, hr, okB, getO, cond_true, hb, ← hp, pfin]
  exact ⟨by simp only [rPut0C, hv]; rfl, by simp only [rPut0, hv, getO]⟩
theorem putX_len (c : Cell) : ∀ m : List Cell, (putX m c).length ≤ m.length + 1
  | [] => by simp only [putX]; split <;> simp
  | x :: m => by
    have := putX_len c m
    simp only [putX]
    repeat' split
    all_goals simp only [List.length_cons]; omega
theorem normX_snoc (l : List Cell) (c : Cell) : normX (l ++ [c]) = putX (normX l) c := by simp [normX, List.foldl_append]
theorem fold_len : ∀ (l m : List Cell), (l.foldl putX m).length ≤ m.length + l.length
  | [], m => by simp
  | x :: l, m => by
    have := fold_len l (putX m x)
    have := putX_len x m
    simp only [List.foldl_cons, List.length_cons]; omega
theorem normX_len (l : List Cell) : (normX l).length ≤ l.length := by
  have := fold_len l []
  simpa [normX] using this
theorem rnorm_run (l : List Cell) (hl : l.length + 1 ≤ most) : rNormC l = true ∧ rNorm l = normX l := by
  have hms := mst
  have h1 := rvalid_run l (by omega)
  have hc : rValidC l = true := by simp only [rValidC, h1]; rfl
  have hv0 : rValid l = vldB l := by simp only [rValid, h1, getO]
  have hv : (rNormT l).val = some (normX l) := by
    cases hb : vldB l with
    | true =>
      have e : Nat.ble l.length most = true := by rw [Nat.ble_eq]; omega
      simp only [rNormT, RT.val, hc, hv0, hb, List.nil_append, e, cond_true, Bool.not_true, Bool.false_or, normX_same (vldB_iff.1 hb)]
    | false =>
      obtain ⟨r, hr, h1, i, hR⟩ := runF_ind (fl := false) (t := rNormL0T) (fuel := fun a => 1000000000000)
        (fun a => ∃ i : Nat, i ≤ l.length ∧ a = (normX (l.take i), l, (l.length : Int), (i : Int), ()))
        (fun a => Int.toNat (a.2.2.1 - a.2.2.2.1)) (fun r => r.1 = false ∧ ∃ i : Nat, r.2 = (normX l, l, (l.length : Int), (i : Int), ()))
        (by
          rintro a ⟨i, hi, rfl⟩
          by_cases hlt : i < l.length
          · left
            have d : decide ((i : Int) < (l.length : Int)) = true := by simpa using hlt
            have r1 := rng_nat l i hlt
            have hlen := normX_len (l.take i)
            rw [List.length_take] at hlen
            have hp := rput0_run (normX (l.take i)) (el l i) (normX_vld _) (by omega)
            refine ⟨_, ?_, ⟨i + 1, hlt, rfl⟩, by simp only; omega⟩
            rw [take_el l i hlt, normX_snoc]
            simp only [rNormL0T, RT.val, d, r1, get_el, hp.1, hp.2, cond_true, Bool.or_true, wadd1 i (by omega)]
          · right; left
            have d : decide ((i : Int) < (l.length : Int)) = false := by simpa using hlt
            have e : l.take i = l := List.take_of_length_le (by omega)
            rw [e]
            exact ⟨_, by simp only [rNormL0T, RT.val, d, cond_false], rfl, i, rfl⟩)
        ([], l, iN l.length, 0, ()) ⟨0, Nat.zero_le _, rfl⟩ (by simp only [iN]; omega)
      obtain ⟨r1, r2⟩ := r
      simp only at h1 hR
      subst h1 hR
      simp only [rNormT, RT.val, hc, hv0, hb, hr, okB, getO, cond_true, cond_false, Bool.not_false, Bool.true_or]
  exact ⟨by simp only [rNormC, hv]; rfl, by simp only [rNorm, hv, getO]⟩
end
end Go.Proofs.YtpkijkmagnhciaaGreat
open Go Go.S3 Go.Proofs Go.Proofs.Cells
set_option linter.unusedVariables false
set_option linter.unusedSimpArgs false
set_option maxRecDepth 100000
namespace Go.Proofs.YtpkijkmagnhciaaGreat
noncomputable section
def keepB (s : List Cell) (i : Nat) : Bool := (el s i).2 != 0 && (decide (i + 1 = s.length) || (el s (i + 1)).1 != (el s i).1)
theorem dd_step (s : List Cell) (i : Nat) (h : i < s.length) : dd (s.drop i) = (bif keepB s i then [el s i] else []) ++ dd (s.drop (i + 1)) := by
  rw [drop_el s i h]
  by_cases hl : i + 1 < s.length
  · rw [drop_el s (i + 1) hl, dd]
    have e : decide (i + 1 = s.length) = false := by simp; omega
    simp only [keepB, e, Bool.false_or]
    by_cases h1 : (el s i).1 = (el s (i + 1)).1
    · have : ((el s (i + 1)).1 != (el s i).1) = false := by simp [h1]
      simp only [this, Bool.and_false, cond_false, List.nil_append, if_pos h1]
    · have : ((el s (i + 1)).1 != (el s i).1) = true := by simpa using fun e => h1 e.symm
      simp only [this, Bool.and_true, if_neg h1]
      by_cases h2 : (el s i).2 = 0
      · have : ((el s i).2 != 0) = false := by simp [h2]
        simp only [this, if_pos h2, cond_false, List.nil_append]
      · have : ((el s i).2 != 0) = true := by simpa using h2
        simp only [this, if_neg h2, cond_true, List.singleton_append]
  · have hn : s.drop (i + 1) = [] := List.drop_eq_nil_of_le (by omega)
    have e : decide (i + 1 = s.length) = true := by simp; omega
    rw [hn]
    simp only [keepB, e, Bool.true_or, Bool.and_true, dd, List.append_nil]
    by_cases h2 : (el s i).2 = 0
    · have : ((el s i).2 != 0) = false := by simp [h2]
      simp only [this, if_pos h2, cond_false]
    · have : ((el s i).2 != 0) = true := by simpa using h2
      simp only [this, if_neg h2, cond_true]
theorem usort_run (l : List Cell) (hl : l.length ≤ most) : uSortC l = true ∧ uSort l = isort l := by
  have hs : stabOk l (iN l.length) = true := by simp [stabOk, iN]; omega
  have hv : (uSortT l).val = some (isort l) := by
    simp only [uSortT, RT.val, ownSt, hs, cond_true]
  exact ⟨by simp only [uSortC, hv]; rfl, by simp only [uSort, hv, getO]⟩
theorem mnorm_run (l : List Cell) (hl : l.length ≤ most) : mNormC l = true ∧ mNorm l = normX l := by
  have hms := mst
  have h1 := usort_run l hl
  have hlen := isort_len l
  generalize hs : isort l = s at hlen h1
  obtain ⟨r, hr, h2, i, hR⟩ := runF_ind (fl := false) (t := mNormL0T) (fuel := fun a => Int.toNat (a.1 - a.2.1) + 1)
    (fun a => ∃ (i : Nat) (o : List Cell), i ≤ s.length ∧ o.length ≤ i ∧ o ++ dd (s.drop i) = dd s ∧ a = ((s.length : Int), (i : Int), s, o, ()))
    (fun a => Int.toNat (a.1 - a.2.1)) (fun r => r.1 = false ∧ ∃ i : Nat, r.2 = ((s.length : Int), (i : Int), s, dd s, ()))
    (by
      rintro a ⟨i, o, hi, ho, hd, rfl⟩
      by_cases hlt : i < s.length
      · left
        have d : decide ((i : Int) < (s.length : Int)) = true := by simpa using hlt
        have r1 := rng_nat s i hlt
        have w := wadd1 i (by omega)
        have e1 : (((i + 1 : Nat) : Int) == iN s.length) = decide (i + 1 = s.length) := by
          rw [Bool.eq_iff_iff]; simp [iN]; omega
        have hst := dd_step s i hlt
        have hle : ∀ x : Cell, Nat.ble (o ++ [x]).length most = true := fun x => by rw [Nat.ble_eq]; simp only [List.length_append, List.length_singleton]; omega
        refine ⟨((s.length : Int), ((i + 1 : Nat) : Int), s, o ++ (bif keepB s i then [el s i] else []), ()), ?_, ⟨i + 1, _, hlt, ?_, ?_, rfl⟩, by simp only; omega⟩
        · have e3 : (!((el s i).2 != 0) || (decide (i + 1 = s.length) || inRng ((i + 1 : Nat) : Int) s.length)) = true := by
            by_cases hq : i + 1 = s.length
            · simp [hq]
            · rw [rng_nat s (i + 1) (by omega)]; simp
          have e4 : ((el s i).2 != 0 && (decide (i + 1 = s.length) || (el s (i + 1)).1 != (el s i).1)) = keepB s i := rfl
          have g1 := get_el s i
          have g2 := get_el s (i + 1)
          simp only [mNormL0T, RT.val, d, r1, w, g1, g2, e1, e3, e4, hle, cond_true, Bool.not_true, Bool.false_or, Bool.or_true]
          cases keepB s i <;> simp
        · cases keepB s i <;> simp only [cond_true, cond_false, List.append_nil, List.length_append, List.length_singleton] <;> omega
        · rw [List.append_assoc, ← hst, hd]
      · right; left
        have d : decide ((i : Int) < (s.length : Int)) = false := by simpa using hlt
        have e : s.drop i = [] := List.drop_eq_nil_of_le (by omega)
        rw [e] at hd
        simp only [dd, List.append_nil] at hd
        subst hd
        exact ⟨_, by simp only [mNormL0T, RT.val, d, cond_false], rfl, i, rfl⟩)
    (iN s.length, 0, s, [], ()) ⟨0, [], Nat.zero_le _, by simp, by simp, rfl⟩ (by simp only [iN]; omega)
  obtain ⟨r1, r2⟩ := r
  simp only at h2 hR
  subst h2 hR
  have hb : Nat.ble l.length most = true := by rw [Nat.ble_eq]; exact hl
  have hv : (mNormT l).val = some (normX l) := by
    simp only [mNormT, RT.val, hb, h1.1, h1.2, hr, okB, getO, cond_true]
    rw [← hs, normX_sort]
  exact ⟨by simp only [mNormC, hv]; rfl, by simp only [mNorm, hv, getO]⟩
end
end Go.Proofs.YtpkijkmagnhciaaGreat
open Go Go.S3 Go.Proofs Go.Proofs.Cells
set_option linter.unusedVariables false
set_option linter.unusedSimpArgs false
set_option maxRecDepth 100000
namespace Go.Proofs.YtpkijkmagnhciaaGreat
noncomputable section
abbrev BR : R := R.int IntKind.u8
theorem get_d (l : List Int) (i : Nat) : R.get BR l (i : Int) = l.getD i 0 := by simp [R.get, R.dflt]
def loadL (t : Int) (b : List Int) (n : Nat) : List Cell := (List.range n).map fun i : Nat => (IntKind.wrap .u16 (t + IntKind.wrap .u16 (i : Int)), b.getD i 0)
theorem loadL_succ (t : Int) (b : List Int) (n : Nat) : loadL t b (n + 1) = loadL t b n ++ [(IntKind.wrap .u16 (t + IntKind.wrap .u16 (n : Int)), b.getD n 0)] := by simp [loadL, List.range_succ]
theorem loadL_len (t : Int) (b : List Int) (n : Nat) : (loadL t b n).length = n := by simp [loadL]
def loadX (t : Int) (b : List Int) : List Cell := normX (loadL t b b.length)
theorem rload_run (t : Int) (b : List Int) (hb : b.length + 1 ≤ most) : rLoadC t b = true ∧ rLoad t b = loadX t b := by
  have hms := mst
  obtain ⟨r, hr, h1, hR⟩ := runF_ind (fl := false) (t := rLoadL0T) (fuel := fun a => 1000000000000)
    (fun a => ∃ i : Nat, i ≤ b.length ∧ a = (t, b, (b.length : Int), (i : Int), loadL t b i, ()))
    (fun a => Int.toNat (a.2.2.1 - a.2.2.2.1)) (fun r => r.1 = false ∧ r.2 = (t, b, (b.length : Int), (b.length : Int), loadL t b b.length, ()))
    (by
      rintro a ⟨i, hi, rfl⟩
      by_cases hlt : i < b.length
      · left
        have d : decide ((i : Int) < (b.length : Int)) = true := by simpa using hlt
        have r1 := rng_nat b i hlt
        have hl : ∀ x : Cell, Nat.ble (loadL t b i ++ [x]).length most = true := fun x => by rw [Nat.ble_eq, List.length_append, loadL_len]; simp only [List.length_singleton]; omega
        refine ⟨_, ?_, ⟨i + 1, hlt, rfl⟩, by simp only; omega⟩
        rw [loadL_succ]
        have g := get_d b i
        simp only [rLoadL0T, RT.val, d, r1, g, hl, cond_true, Bool.not_true, Bool.false_or, wadd1 i (by omega)]
      · right; left
        have d : decide ((i : Int) < (b.length : Int)) = false := by simpa using hlt
        have e : i = b.length := by omega
        subst e
        exact ⟨_, by simp only [rLoadL0T, RT.val, d, cond_false], rfl, rfl⟩)
    (t, b, iN b.length, 0, [], ()) ⟨0, Nat.zero_le _, rfl⟩ (by simp only [iN]; omega)
  obtain ⟨r1, r2⟩ := r
  simp only at h1 hR
  subst h1 hR
  have hn := rnorm_run (loadL t b b.length) (by rw [loadL_len]; exact hb)
  have hv : (rLoadT t b).val = some (loadX t b) := by
    simp only [rLoadT, RT.val, hr, okB, getO, cond_true, hn.1, hn.2, loadX]
  exact ⟨by simp only [rLoadC, hv]; rfl, by simp only [rLoad, hv, getO]⟩
theorem rsame_run (a b : List Cell) (ha : a.length ≤ most) : rSameMC a b = true ∧ rSameM a b = decide (a = b) := by
  have hms := mst
  have hv : (rSameMT a b).val = some (decide (a = b)) := by
    by_cases hl : a.length = b.length
    · have hn : (iN a.length != iN b.length) = false := by simp [iN, hl]
      obtain ⟨r, hr, hR⟩ := runF_ind (fl := true) (t := rSameML0T) (fuel := fun _ => 1000000000000)
        (fun x => ∃ i : Nat, i ≤ a.length ∧ (∀ k, k < i → el a k = el b k) ∧ x = (a, b, false, (a.length : Int), (i : Int), ()))
        (fun x => Int.toNat (x.2.2.2.1 - x.2.2.2.2.1)) (fun r => (r.1 = false ∧ a = b) ∨ (r.1 = true ∧ a ≠ b ∧ r.2.2.2.1 = false))
        (by
          rintro x ⟨i, hi, hk, rfl⟩
          by_cases hlt : i < a.length
          · have d : decide ((i : Int) < (a.length : Int)) = true := by simpa using hlt
            have r1 := rng_nat a i hlt
            have r2 := rng_nat b i (by omega)
            have g1 := get_el a i
            have g2 := get_el b i
            by_cases he : el a i = el b i
            · left
              refine ⟨(a, b, false, (a.length : Int), ((i + 1 : Nat) : Int), ()), ?_, ⟨i + 1, hlt, fun k hk' => ?_, rfl⟩, by simp only; omega⟩
              · simp only [rSameML0T, RT.val, d, r1, r2, g1, g2, he, beq_self_eq_true, Bool.and_self, Bool.not_true, Bool.or_true, cond_true, cond_false, wadd1 i (by omega)]
              · by_cases e : k = i
                · subst e; exact he
                · exact hk k (by omega)
            · right; right
              have hne : ((el a i).1 == (el b i).1 && ((el a i).2 == (el b i).2 && true)) = false := by
                rw [Bool.eq_false_iff]; intro h
                simp only [Bool.and_eq_true, beq_iff_eq, and_true] at h
                exact he (Prod.ext h.1 h.2)
              refine ⟨(a, b, false, (a.length : Int), (i : Int), ()), rfl, ?_, .inr ⟨rfl, fun h => he (by rw [h]), rfl⟩⟩
              simp only [rSameML0T, RT.val, d, r1, r2, g1, g2, hne, Bool.not_true, Bool.not_false, Bool.or_true, cond_true]
          · right; left
            have d : decide ((i : Int) < (a.length : Int)) = false := by simpa using hlt
            refine ⟨_, by simp only [rSameML0T, RT.val, d, cond_false]; rfl, .inl ⟨rfl, List.ext_getElem? fun k => ?_⟩⟩
            by_cases hk' : k < a.length
            · rw [el_get a k hk', el_get b k (by omega), hk k (by omega)]
            · rw [List.getElem?_eq_none (by omega), List.getElem?_eq_none (by omega)])
        (a, b, false, iN a.length, 0, ()) ⟨0, Nat.zero_le _, fun k h => by omega, rfl⟩ (by simp only [iN]; omega)
      rcases hR with ⟨h1, h2⟩ | ⟨h1, h2, h3⟩
      · have hd : decide (a = b) = true := decide_eq_true h2
        simp only [rSameMT, RT.val, hn, hr, okB, getO, cond_true, cond_false, h1, hd]
      · have hd : decide (a = b) = false := decide_eq_false h2
        simp only [rSameMT, RT.val, hn, hr, okB, getO, cond_true, cond_false, h1, h3, hd]
    · have hn : (iN a.length != iN b.length) = true := by simp only [iN, bne_iff_ne, ne_eq]; omega
      have hne : a ≠ b := fun h => hl (by rw [h])
      simp only [rSameMT, RT.val, hn, cond_true, hne, decide_false]
  exact ⟨by simp only [rSameMC, hv]; rfl, by simp only [rSameM, hv, getO]⟩
theorem mvalid_eq (m : List Cell) (hm : m.length ≤ most) : mValidC m = true ∧ mValid m = vldB m := by
  have h := mvalid_run m hm
  exact ⟨by simp only [mValidC, h]; rfl, by simp only [mValid, h, getO]⟩
theorem rvalid_eq (m : List Cell) (hm : m.length ≤ most) : rValidC m = true ∧ rValid m = vldB m := by
  have h := rvalid_run m hm
  exact ⟨by simp only [rValidC, h]; rfl, by simp only [rValid, h, getO]⟩
theorem rget_eq (m : List Cell) (t : Int) (hm : m.length ≤ most) : rGetMC m t = true ∧ rGetM m t = getX m t := by
  have h := rget_run m t hm
  exact ⟨by simp only [rGetMC, h]; rfl, by simp only [rGetM, h, getO]⟩
abbrev GR : R := R.pair (R.int IntKind.u16) (R.pair (R.int IntKind.u16) (R.pair R.bool (R.int IntKind.i64)))
def hitB (t : Int) (r : RegionT) : Bool := decide (r.1 ≤ t) && decide (t ≤ r.2.1)
def findX (l : List RegionT) (t : Int) : Int := if l.findIdx (hitB t) < l.length then (l.findIdx (hitB t) : Int) else -1
def rg (l : List RegionT) (i : Nat) : RegionT := l.getD i (0, 0, false, 0)
theorem get_rg (l : List RegionT) (i : Nat) : R.get GR l (i : Int) = rg l i := by simp [R.get, R.dflt, rg]
theorem rg_get (l : List RegionT) (i : Nat) (h : i < l.length) : l[i] = rg l i := by simp [rg, h]
theorem find_at {l : List RegionT} {t : Int} {i : Nat} (hi : i < l.length) (h : hitB t (rg l i) = true) (hk : ∀ k, k < i → hitB t (rg l k) = false) : findX l t = i := by
  have : l.findIdx (hitB t) = i := (List.findIdx_eq hi).2 ⟨by rw [rg_get l i hi]; exact h, fun j hj => by rw [rg_get l j (by omega)]; exact hk j hj⟩
  simp only [findX, this, hi, if_true]
theorem find_no {l : List RegionT} {t : Int} (hk : ∀ k, k < l.length → hitB t (rg l k) = false) : findX l t = -1 := by
  have : ¬ l.findIdx (hitB t) < l.length := by
    rw [List.findIdx_lt_length]
    rintro ⟨x, hx, hp⟩
    obtain ⟨i, hi, rfl⟩ := List.mem_iff_getElem.1 hx
    rw [rg_get l i hi, hk i hi] at hp
    exact absurd hp (by simp)
  simp only [findX, this, if_false]
theorem rfind_run (l : List RegionT) (t : Int) (hl : l.length ≤ most) : rFindC l t = true ∧ rFind l t = findX l t := by
  have hms := mst
  obtain ⟨r, hr, hR⟩ := runF_ind (fl := true) (t := rFindL0T) (fuel := fun _ => 1000000000000)
    (fun x => ∃ i : Nat, i ≤ l.length ∧ (∀ k, k < i → hitB t (rg l k) = false) ∧ x = (t, 0, l, (l.length : Int), (i : Int), ()))
    (fun x => Int.toNat (x.2.2.2.1 - x.2.2.2.2.1)) (fun r => (r.1 = false ∧ findX l t = -1) ∨ (r.1 = true ∧ r.2.2.1 = findX l t))
    (by
      rintro x ⟨i, hi, hk, rfl⟩
      by_cases hlt : i < l.length
      · have d : decide ((i : Int) < (l.length : Int)) = true := by simpa using hlt
        have r1 := rng_nat l i hlt
        have g1 := get_rg l i
        cases hh : hitB t (rg l i) with
        | false =>
          left
          refine ⟨(t, 0, l, (l.length : Int), ((i + 1 : Nat) : Int), ()), ?_, ⟨i + 1, hlt, fun k hk' => ?_, rfl⟩, by simp only; omega⟩
          · simp only [hitB] at hh
            simp only [rFindL0T, RT.val, d, r1, g1, hh, cond_true, cond_false, wadd1 i (by omega)]
          · by_cases e : k = i
            · subst e; exact hh
            · exact hk k (by omega)
        | true =>
          right; right
          refine ⟨(t, (i : Int), l, (l.length : Int), (i : Int), ()), rfl, ?_, .inr ⟨rfl, (find_at hlt hh hk).symm⟩⟩
          simp only [hitB] at hh
          simp only [rFindL0T, RT.val, d, r1, g1, hh, cond_true]
      · right; left
        have d : decide ((i : Int) < (l.length : Int)) = false := by simpa using hlt
        exact ⟨_, by simp only [rFindL0T, RT.val, d, cond_false]; rfl, .inl ⟨rfl, find_no fun k h => hk k (by omega)⟩⟩)
    (t, 0, l, iN l.length, 0, ()) ⟨0, Nat.zero_le _, fun k h => by omega, rfl⟩ (by simp only [iN]; omega)
  have hv : (rFindT l t).val = some (findX l t) := by
    rcases hR with ⟨h1, h2⟩ | ⟨h1, h2⟩
    · simp only [rFindT, RT.val, hr, okB, getO, cond_true, h1, cond_false, h2]
    · simp only [rFindT, RT.val, hr, okB, getO, cond_true, h1, h2]
  exact ⟨by simp only [rFindC, hv]; rfl, by simp only [rFind, hv, getO]⟩
theorem pfind_run (l : List RegionT) (t : Int) (hl : l.length ≤ most) : pFindC l t = true ∧ pFind l t = findX l t := by
  have h := rfind_run l t hl
  have e : pFindT l t = rFindT l t := rfl
  simp only [rFindC, rFind, ← e] at h
  exact h
def readMX (l : List RegionT) (m : List Cell) (t : Int) : Int := bif decide (findX l t < 0) then 255 else getX m t
end
end Go.Proofs.YtpkijkmagnhciaaGreat
