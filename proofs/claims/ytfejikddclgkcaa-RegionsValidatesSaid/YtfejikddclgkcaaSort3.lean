/-
  Contracts of functions; each found by the symbolic executor and checked by the kernel. Conditions: none.
-/
import Derived.Test.YtfejikddclgkcaaS3D
import Derived.Test.YtfejikddclgkcaaProg
import Derived.Test.YtfejikddclgkcaaSortC0
set_option linter.unusedSimpArgs false
open Go Go.S3 Go.Proofs
set_option linter.unusedVariables false
set_option maxRecDepth 100000
namespace Go.Proofs.Ytfejikddclgkcaa
noncomputable section
abbrev uSymRb : R := R.pair (R.int IntKind.u16) (R.int IntKind.u8)


abbrev uSymEl : Nat := 42

abbrev uSymTs : List Sh := [Sh.one (R.int IntKind.i64), Sh.one (R.int IntKind.i64), Sh.one (R.int IntKind.i64)]


def uSymL0c : LS := { n := 220, slots := [(0, .tip 0), (1, .code (Sh.one (R.int IntKind.i64))), (4, .fix (A.clo 48 [])), (10, .code (Sh.one (R.int IntKind.i64))), (11, .code (Sh.one (R.int IntKind.i64)))], boxes := [], stgs := [⟨R.pair (R.int IntKind.u16) (R.int IntKind.u8), 42, false⟩], keep := [0] }


noncomputable def uSymL0T (a : Int × Int × Int × List (Int × Int) × PUnit) : RT (Option (Go1 (Int × Int × Int × List (Int × Int) × PUnit))) :=
  let x1 : Int := IntKind.i64.wrap (shrI IntKind.u64 (IntKind.u64.wrap (IntKind.i64.wrap (a.2.1 + a.2.2.1))) 1)
  let x2 : Bool := inRng x1 (List.length a.2.2.2.1)
  let x3 : Bool := !x2 || inRng a.1 (List.length a.2.2.2.1)
  let x4 : Bool := decide (uLess (R.get (R.pair (R.int IntKind.u16) (R.int IntKind.u8)) a.2.2.2.1 x1) (R.get (R.pair (R.int IntKind.u16) (R.int IntKind.u8)) a.2.2.2.1 a.1) < 0)
  .br (decide (a.2.1 < a.2.2.1))
  (.br (!x3 || x2)
   (.br (x3)
    (.leaf (some (Go1.cont (a.1, bif x4 then IntKind.i64.wrap (x1 + 1) else a.2.1, bif x4 then a.2.2.1 else x1, a.2.2.2.1, PUnit.unit))))
    (.leaf none))
   (.leaf none))
  (.leaf (some (Go1.brk (a.1, a.2.1, a.2.2.1, a.2.2.2.1, PUnit.unit))))

noncomputable def uSymL0O : Ora := loopE false uSymL0c uSymL0T (fun a => (a.2.2.1 - a.2.1).toNat + 1)

theorem uSymL0_ok : OraOk (envX Try.prog [(63, uRot1E), (48, uLessE)] [] 33554431 8) (.block 0 (.loop (bodyIn Try.f61.body 0))) uSymL0O :=
  loop_part (envX_ok (l := [(63, uRot1E), (48, uLessE)]) ⟨uRot1_ok, uLess_ok, trivial⟩ [] 33554431 8) (loopsOk_bare (by kernel_rfl)) (fun a => by kernel_rfl)

def uSymL1c : LS := { n := 220, slots := [(0, .tip 0), (10, .code (Sh.one (R.int IntKind.i64))), (13, .code (Sh.one (R.int IntKind.i64)))], boxes := [], stgs := [⟨R.pair (R.int IntKind.u16) (R.int IntKind.u8), 42, false⟩], keep := [0] }


noncomputable def uSymL1T (a : Int × Int × List (Int × Int) × PUnit) : RT (Option (Go1 (Int × Int × List (Int × Int) × PUnit))) :=
  let x1 : Bool := !inRng (IntKind.i64.wrap (a.2.1 + 1)) (List.length a.2.2.1)
  let x2 : List (Int × Int) := setI a.2.2.1 a.2.1 (R.get (R.pair (R.int IntKind.u16) (R.int IntKind.u8)) a.2.2.1 (IntKind.i64.wrap (a.2.1 + 1)))
  let x3 : Bool := x1 || (!inRng a.2.1 (List.length a.2.2.1) || (!inRng a.2.1 (List.length a.2.2.1) || inRng (IntKind.i64.wrap (a.2.1 + 1)) (List.length x2)))
  let x4 : Bool := !x3
  let x5 : Bool := x1 || (!inRng a.2.1 (List.length a.2.2.1) || inRng a.2.1 (List.length a.2.2.1))
  let x6 : Bool := !x5
  let x7 : Bool := x1 || inRng a.2.1 (List.length a.2.2.1)
  .br (decide (a.2.1 < IntKind.i64.wrap (a.1 - 1)))
  (.br (x4 || (x6 || (!x7 || inRng (IntKind.i64.wrap (a.2.1 + 1)) (List.length a.2.2.1))))
   (.br (x4 || (x6 || x7))
    (.br (x4 || x5)
     (.br (x3)
      (.leaf (some (Go1.cont (a.1, IntKind.i64.wrap (a.2.1 + 1), setI x2 (IntKind.i64.wrap (a.2.1 + 1)) (R.get (R.pair (R.int IntKind.u16) (R.int IntKind.u8)) a.2.2.1 a.2.1), PUnit.unit))))
      (.leaf none))
     (.leaf none))
    (.leaf none))
   (.leaf none))
  (.leaf (some (Go1.brk (a.1, a.2.1, a.2.2.1, PUnit.unit))))

noncomputable def uSymL1O : Ora := loopE false uSymL1c uSymL1T (fun a => (a.1 - a.2.1).toNat + 1)

theorem uSymL1_ok : OraOk (envX Try.prog [(63, uRot1E), (48, uLessE)] [] 33554431 8) (.block 2 (.loop (bodyIn Try.f61.body 2))) uSymL1O :=
  loop_part (envX_ok (l := [(63, uRot1E), (48, uLessE)]) ⟨uRot1_ok, uLess_ok, trivial⟩ [] 33554431 8) (loopsOk_bare (by kernel_rfl)) (fun a => by kernel_rfl)

def uSymL2c : LS := { n := 220, slots := [(0, .tip 0), (2, .code (Sh.one (R.int IntKind.i64))), (4, .fix (A.clo 48 [])), (14, .code (Sh.one (R.int IntKind.i64))), (15, .code (Sh.one (R.int IntKind.i64)))], boxes := [], stgs := [⟨R.pair (R.int IntKind.u16) (R.int IntKind.u8), 42, false⟩], keep := [0] }


noncomputable def uSymL2T (a : Int × Int × Int × List (Int × Int) × PUnit) : RT (Option (Go1 (Int × Int × Int × List (Int × Int) × PUnit))) :=
  let x1 : Int := IntKind.i64.wrap (shrI IntKind.u64 (IntKind.u64.wrap (IntKind.i64.wrap (a.2.1 + a.2.2.1))) 1)
  let x2 : Bool := !inRng a.1 (List.length a.2.2.2.1) || inRng x1 (List.length a.2.2.2.1)
  let x3 : Bool := !decide (uLess (R.get (R.pair (R.int IntKind.u16) (R.int IntKind.u8)) a.2.2.2.1 a.1) (R.get (R.pair (R.int IntKind.u16) (R.int IntKind.u8)) a.2.2.2.1 x1) < 0)
  .br (decide (a.2.1 < a.2.2.1))
  (.br (!x2 || inRng a.1 (List.length a.2.2.2.1))
   (.br (x2)
    (.leaf (some (Go1.cont (a.1, bif x3 then IntKind.i64.wrap (x1 + 1) else a.2.1, bif x3 then a.2.2.1 else x1, a.2.2.2.1, PUnit.unit))))
    (.leaf none))
   (.leaf none))
  (.leaf (some (Go1.brk (a.1, a.2.1, a.2.2.1, a.2.2.2.1, PUnit.unit))))

noncomputable def uSymL2O : Ora := loopE false uSymL2c uSymL2T (fun a => (a.2.2.1 - a.2.1).toNat + 1)

theorem uSymL2_ok : OraOk (envX Try.prog [(63, uRot1E), (48, uLessE)] [] 33554431 8) (.block 4 (.loop (bodyIn Try.f61.body 4))) uSymL2O :=
  loop_part (envX_ok (l := [(63, uRot1E), (48, uLessE)]) ⟨uRot1_ok, uLess_ok, trivial⟩ [] 33554431 8) (loopsOk_bare (by kernel_rfl)) (fun a => by kernel_rfl)

def uSymL3c : LS := { n := 220, slots := [(0, .tip 0), (14, .code (Sh.one (R.int IntKind.i64))), (17, .code (Sh.one (R.int IntKind.i64)))], boxes := [], stgs := [⟨R.pair (R.int IntKind.u16) (R.int IntKind.u8), 42, false⟩], keep := [0] }


noncomputable def uSymL3T (a : Int × Int × List (Int × Int) × PUnit) : RT (Option (Go1 (Int × Int × List (Int × Int) × PUnit))) :=
  let x1 : Bool := !inRng (IntKind.i64.wrap (a.2.1 - 1)) (List.length a.2.2.1)
  let x2 : List (Int × Int) := setI a.2.2.1 a.2.1 (R.get (R.pair (R.int IntKind.u16) (R.int IntKind.u8)) a.2.2.1 (IntKind.i64.wrap (a.2.1 - 1)))
  let x3 : Bool := x1 || (!inRng a.2.1 (List.length a.2.2.1) || (!inRng a.2.1 (List.length a.2.2.1) || inRng (IntKind.i64.wrap (a.2.1 - 1)) (List.length x2)))
  let x4 : Bool := !x3
  let x5 : Bool := x1 || (!inRng a.2.1 (List.length a.2.2.1) || inRng a.2.1 (List.length a.2.2.1))
  let x6 : Bool := !x5
  let x7 : Bool := x1 || inRng a.2.1 (List.length a.2.2.1)
  .br (decide (a.2.1 > a.1))
  (.br (x4 || (x6 || (!x7 || inRng (IntKind.i64.wrap (a.2.1 - 1)) (List.length a.2.2.1))))
   (.br (x4 || (x6 || x7))
    (.br (x4 || x5)
     (.br (x3)
      (.leaf (some (Go1.cont (a.1, IntKind.i64.wrap (a.2.1 - 1), setI x2 (IntKind.i64.wrap (a.2.1 - 1)) (R.get (R.pair (R.int IntKind.u16) (R.int IntKind.u8)) a.2.2.1 a.2.1), PUnit.unit))))
      (.leaf none))
     (.leaf none))
    (.leaf none))
   (.leaf none))
  (.leaf (some (Go1.brk (a.1, a.2.1, a.2.2.1, PUnit.unit))))

noncomputable def uSymL3O : Ora := loopE false uSymL3c uSymL3T (fun a => (a.2.1 - a.1).toNat + 1)

theorem uSymL3_ok : OraOk (envX Try.prog [(63, uRot1E), (48, uLessE)] [] 33554431 8) (.block 6 (.loop (bodyIn Try.f61.body 6))) uSymL3O :=
  loop_part (envX_ok (l := [(63, uRot1E), (48, uLessE)]) ⟨uRot1_ok, uLess_ok, trivial⟩ [] 33554431 8) (loopsOk_bare (by kernel_rfl)) (fun a => by kernel_rfl)

def uSymL4c : LS := { n := 220, slots := [(0, .tip 0), (1, .code (Sh.one (R.int IntKind.i64))), (2, .code (Sh.one (R.int IntKind.i64))), (3, .code (Sh.one (R.int IntKind.i64))), (4, .fix (A.clo 48 [])), (18, .code (Sh.one (R.int IntKind.i64))), (19, .code (Sh.one (R.int IntKind.i64))), (20, .code (Sh.one (R.int IntKind.i64))), (21, .code (Sh.one (R.int IntKind.i64))), (22, .code (Sh.one (R.int IntKind.i64)))], boxes := [], stgs := [⟨R.pair (R.int IntKind.u16) (R.int IntKind.u8), 42, false⟩], keep := [0] }


noncomputable def uSymL4T (a : Int × Int × Int × Int × Int × Int × Int × Int × List (Int × Int) × PUnit) : RT (Option (Go1 (Int × Int × Int × Int × Int × Int × Int × Int × List (Int × Int) × PUnit))) :=
  let x1 : Int := IntKind.i64.wrap (shrI IntKind.u64 (IntKind.u64.wrap (IntKind.i64.wrap (a.2.2.2.2.2.1 + a.2.2.2.2.2.2.1))) 1)
  let x2 : Int := IntKind.i64.wrap (a.2.2.2.2.2.2.2.1 - x1)
  let x3 : Bool := inRng x2 (List.length a.2.2.2.2.2.2.2.2.1)
  let x4 : Bool := !x3 || inRng x1 (List.length a.2.2.2.2.2.2.2.2.1)
  let x5 : Bool := !decide (uLess (R.get (R.pair (R.int IntKind.u16) (R.int IntKind.u8)) a.2.2.2.2.2.2.2.2.1 x2) (R.get (R.pair (R.int IntKind.u16) (R.int IntKind.u8)) a.2.2.2.2.2.2.2.2.1 x1) < 0)
  let x6 : Int × List (Int × Int) × PUnit := (a.2.2.2.2.2.2.2.1, a.2.2.2.2.2.2.2.2.1, PUnit.unit)
  .br (decide (a.2.2.2.2.2.1 < a.2.2.2.2.2.2.1))
  (.br (!x4 || x3)
   (.br (x4)
    (.leaf (some (Go1.cont (a.1, a.2.1, a.2.2.1, a.2.2.2.1, a.2.2.2.2.1, bif x5 then IntKind.i64.wrap (x1 + 1) else a.2.2.2.2.2.1, bif x5 then a.2.2.2.2.2.2.1 else x1, x6))))
    (.leaf none))
   (.leaf none))
  (.leaf (some (Go1.brk (a.1, a.2.1, a.2.2.1, a.2.2.2.1, a.2.2.2.2.1, a.2.2.2.2.2.1, a.2.2.2.2.2.2.1, x6))))

noncomputable def uSymL4O : Ora := loopE false uSymL4c uSymL4T (fun a => (a.2.2.2.2.2.2.1 - a.2.2.2.2.2.1).toNat + 1)

theorem uSymL4_ok : OraOk (envX Try.prog [(63, uRot1E), (48, uLessE)] [] 33554431 8) (.block 8 (.loop (bodyIn Try.f61.body 8))) uSymL4O :=
  loop_part (envX_ok (l := [(63, uRot1E), (48, uLessE)]) ⟨uRot1_ok, uLess_ok, trivial⟩ [] 33554431 8) (loopsOk_bare (by kernel_rfl)) (fun a => by kernel_rfl)

noncomputable def uSymT (k : Int) (s : List (Int × Int)) (a : Int) (m : Int) (b : Int) : RT (Option (List (Int × Int))) :=
  let x1 : Option (Bool × Int × Int × Int × List (Int × Int) × PUnit) := runF false uSymL0T (fun a_1 => Int.toNat (a_1.2.2.1 - a_1.2.1) + 1) (a, m, b, Stg.l (ownSt uSymRb uSymEl s), ())
  let x2 : Int × Int × Int × List (Int × Int) × PUnit := (getO (false, a, m, b, Stg.l (ownSt uSymRb uSymEl s), ()) x1).2
  let x3 : Int × Int × List (Int × Int) × PUnit := x2.2
  let x4 : Int × Int × List (Int × Int) × PUnit := (x3.1, x2.1, x3.2.2.1, ())
  let x5 : Option (Bool × Int × Int × List (Int × Int) × PUnit) := runF false uSymL1T (fun a_1 => Int.toNat (a_1.1 - a_1.2.1) + 1) x4
  let x6 : Option (Bool × Int × Int × Int × List (Int × Int) × PUnit) := runF false uSymL2T (fun a_1 => Int.toNat (a_1.2.2.1 - a_1.2.1) + 1) (m, a, m, Stg.l (ownSt uSymRb uSymEl s), ())
  let x7 : Int × Int × Int × List (Int × Int) × PUnit := (getO (false, m, a, m, Stg.l (ownSt uSymRb uSymEl s), ()) x6).2
  let x8 : Int × Int × List (Int × Int) × PUnit := x7.2
  let x9 : Int × Int × List (Int × Int) × PUnit := (x8.1, x7.1, x8.2.2.1, ())
  let x10 : Option (Bool × Int × Int × List (Int × Int) × PUnit) := runF false uSymL3T (fun a_1 => Int.toNat (a_1.2.1 - a_1.1) + 1) x9
  let x11 : Int := IntKind.i64.wrap (IntKind.i64.wrap (shrI IntKind.u64 (IntKind.u64.wrap (IntKind.i64.wrap (a + b))) 1) + m)
  let x12 : Bool := decide (m > IntKind.i64.wrap (shrI IntKind.u64 (IntKind.u64.wrap (IntKind.i64.wrap (a + b))) 1))
  let x13 : Int × Int × Int × Int × Int × Int × Int × Int × List (Int × Int) × PUnit := (a, m, b, IntKind.i64.wrap (shrI IntKind.u64 (IntKind.u64.wrap (IntKind.i64.wrap (a + b))) 1), x11, bif x12 then IntKind.i64.wrap (x11 - b) else a, bif x12 then IntKind.i64.wrap (shrI IntKind.u64 (IntKind.u64.wrap (IntKind.i64.wrap (a + b))) 1) else m, IntKind.i64.wrap (x11 - 1), Stg.l (ownSt uSymRb uSymEl s), ())
  let x14 : Option (Bool × Int × Int × Int × Int × Int × Int × Int × Int × List (Int × Int) × PUnit) := runF false uSymL4T (fun a_1 => Int.toNat (a_1.2.2.2.2.2.2.1 - a_1.2.2.2.2.2.1) + 1) x13
  let x15 : Int × Int × Int × Int × Int × Int × Int × Int × List (Int × Int) × PUnit := (getO (false, x13) x14).2
  let x16 : Int × Int × Int × Int × Int × Int × Int × List (Int × Int) × PUnit := x15.2
  let x17 : Int × Int × Int × Int × Int × Int × List (Int × Int) × PUnit := x16.2
  let x18 : Int × Int × Int × Int × Int × List (Int × Int) × PUnit := x17.2
  let x19 : Int × Int × Int × Int × List (Int × Int) × PUnit := x18.2
  let x20 : Int × Int × Int × List (Int × Int) × PUnit := x19.2
  let x21 : Int := x20.1
  let x22 : Int := x16.1
  let x23 : Int := IntKind.i64.wrap (x19.1 - x21)
  let x24 : Bool := decide (x21 < x22) && decide (x22 < x23)
  let x25 : List (Int × Int) := x20.2.2.2.1
  let x26 : Int := x15.1
  let x27 : Int := x18.1
  let x28 : Bool := decide (x26 < x21) && decide (x21 < x27)
  let x29 : List (Int × Int) := bif x24 then rotX x25 (Int.toNat x21) (Int.toNat x22) (Int.toNat x23) else x25
  let x30 : Int := x17.1
  let x31 : Bool := decide (x27 < x23) && decide (x23 < x30)
  let x32 : Nat := Int.toNat x27
  let x33 : List (Int × Int) := bif x28 then sortX x29 (Int.toNat x26) x32 else x29
  .br (!IntKind.i64.wrap (m - a) == 1 || okB x1)
  (.br (!IntKind.i64.wrap (m - a) == 1 || okB x5)
   (.br (IntKind.i64.wrap (m - a) == 1)
    (.leaf (some (getO (false, x4) x5).2.2.2.1))
    (.br (!IntKind.i64.wrap (b - m) == 1 || okB x6)
     (.br (!IntKind.i64.wrap (b - m) == 1 || okB x10)
      (.br (IntKind.i64.wrap (b - m) == 1)
       (.leaf (some (getO (false, x9) x10).2.2.2.1))
       (.br (okB x14)
        (.br (!x24 || rotOk x25 x21 x22 x23)
         (.br (!x28 || symOk k x29 x26 x21 x27)
          (.br (!x31 || symOk k x33 x27 x23 x30)
           (.leaf (some (bif x31 then sortX x33 x32 (Int.toNat x30) else x33)))
           (.leaf none))
          (.leaf none))
         (.leaf none))
        (.leaf none)))
      (.leaf none))
     (.leaf none)))
   (.leaf none))
  (.leaf none)

theorem uSym_law (k : Int) (h : EntryOk Try.prog 61 (symRE k)) {pre : List uSymRb.den × HL uSymTs → Option Bool} {F : List uSymRb.den × HL uSymTs → List uSymRb.den} (hF : ∀ a, (R.sl uSymRb).ok a.1 → okHL uSymTs a.2 → pre a ≠ some false → (uSymT k a.1 a.2.1 a.2.2.1 a.2.2.2).val = some (F a)) : EntryOk Try.prog 61 (stE uSymRb uSymEl 48 uSymTs pre F) :=
  st_law (P := Try.prog) (n := 33554431) (k := 8) (l := [(63, uRot1E), (48, uLessE), (61, symRE k)]) (ol := [(0, uSymL0O), (2, uSymL1O), (4, uSymL2O), (6, uSymL3O), (8, uSymL4O)]) ⟨uRot1_ok, uLess_ok, h, trivial⟩ Try.func61 rfl (by kernel_rfl) Try.call61 ⟨uSymL0_ok, uSymL1_ok, uSymL2_ok, uSymL3_ok, uSymL4_ok, trivial⟩ (r := uSymRb) (T := uSymEl) (g0 := 48) (ts := uSymTs) (t := fun a => uSymT k a.1 a.2.1 a.2.2.1 a.2.2.2) (fun a => by kernel_rfl) hF

end
end Go.Proofs.Ytfejikddclgkcaa
