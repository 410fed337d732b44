/-
  Contracts of functions; each found by the symbolic executor and checked by the kernel. Conditions: none.
-/
import Derived.Test.YteboknglfjadoaaGreatS3D
import Derived.Test.YteboknglfjadoaaGreatProg
import Derived.Test.YteboknglfjadoaaGreatCoreEnt
import Derived.Test.YteboknglfjadoaaGreatMakeOk5
import Derived.Test.YteboknglfjadoaaGreatS3Box1
set_option linter.unusedSimpArgs false
open Go Go.S3 Go.Proofs
set_option linter.unusedVariables false
set_option maxRecDepth 100000
namespace Go.Proofs.YteboknglfjadoaaGreat
noncomputable section
abbrev rSameBTs : List Sh := [Sh.one (R.sl (R.int IntKind.u8)), Sh.one (R.sl (R.int IntKind.u8))]


abbrev rSameBRs : Rs := Rs.one (Sh.one R.bool)


noncomputable def rSameBT (a : List Int) (b : List Int) : RT (Bool) :=
  .leaf (ByteArray.toList (strOf a) == ByteArray.toList (strOf b))


noncomputable def rSameB (a : List Int) (b : List Int) : Bool := (rSameBT a b).val


noncomputable def rSameBE : Entry := pureE rSameBTs rSameBRs (fun _ => none) (fun a => rSameB a.1 a.2)


theorem rSameB_ok : EntryOk Tryz.prog 32 rSameBE :=
  pure_tot (P := Tryz.prog) (n := 31) (k := 8) (l := []) (ol := []) trivial Tryz.func32 rfl (by kernel_rfl) Tryz.call32 trivial (ts := rSameBTs) (rs := rSameBRs) (t := fun a => rSameBT a.1 a.2) (fun a => by kernel_rfl)


abbrev kKnTs : List Sh := []


abbrev kKnRs : Rs := Rs.one (Sh.one R.bool)


noncomputable def kKnT : RT (Option (Bool)) :=
  let x1 : Bool × Bool × Bool × Bool × Bool × Bool × Bool × Bool × Bool := (true, false, false, false, false, false, false, false, false)
  let x2 : TC × Int × List Int × TY × Int × Bool := (clkX (newX 1) x1 0).1
  let x3 : Bool := roomB x2
  let x4 : Bool := !x3
  let x5 : TC × Int × List Int × TY × Int × Bool := (clkX x2 x1 0).1
  let x6 : Bool := roomB x5
  let x7 : Bool := !x6
  let x8 : TC × Int × List Int × TY × Int × Bool := (clkX x5 x1 0).1
  let x9 : Bool := roomB x8
  .br (!roomB (newX 1) || (x4 || (x7 || (!x9 || roomB (clkX x8 x1 0).1))))
  (.br (!roomB (newX 1) || (x4 || (x7 || x9)))
   (.br (!roomB (newX 1) || (x4 || x6))
    (.br (!roomB (newX 1) || x3)
     (.br (roomB (newX 1))
      (.leaf (some (true)))
      (.leaf none))
     (.leaf none))
    (.leaf none))
   (.leaf none))
  (.leaf none)


noncomputable def kKn : Bool := getO kKnRs.dflt (kKnT ).val


noncomputable def kKnC : Bool := okB (kKnT ).val


noncomputable def kKnE : Entry := pureE kKnTs kKnRs (fun a => some (kKnC )) (fun a => kKn )


theorem kKn_ok : EntryOk Tryz.prog 15 kKnE :=
  pure_part (P := Tryz.prog) (n := 63) (k := 8) (l := [(23, pClock1E), (28, pNew1E)]) (ol := []) ⟨pClock1_ok, pNew1_ok, trivial⟩ Tryz.func15 rfl (by kernel_rfl) Tryz.call15 trivial (ts := kKnTs) (rs := kKnRs) (t := fun a => kKnT ) (fun a => by kernel_rfl)


noncomputable def Ststatemake_FromE : Entry := .tree (evFunc (envX Tryz.prog [] [] 7 8) Tryz.f16)


theorem Ststatemake_From_ok : EntryOk Tryz.prog 16 Ststatemake_FromE := inl_ok (P := Tryz.prog) (n := 7) (k := 8) (l := []) (ol := []) trivial Tryz.func16 rfl (by kernel_rfl) Tryz.call16 trivial


abbrev lStrTs : List Sh := [Sh.one (R.sl (R.int IntKind.i64))]

abbrev lStrRs : Rs := Rs.one (Sh.one R.bool)

def lStrL0c : LS := { n := 121, slots := [(0, .code (Sh.one (R.sl (R.int IntKind.i64)))), (2, .code (Sh.one R.bool)), (3, .fix (A.loc 0 0)), (4, .fix (A.loc 1 0)), (5, .fix (A.loc 2 0)), (6, .code (Sh.one (R.int IntKind.i64))), (7, .code (Sh.one (R.int IntKind.u8))), (8, .code (Sh.one (R.int IntKind.i64)))], boxes := [[.code (.sl (R.int IntKind.i64)), .code (.int IntKind.i64)], [.many (R.pair (R.pair (R.int IntKind.i64) (R.pair (R.pair (R.int IntKind.u8) (R.pair (R.int IntKind.u8) (R.pair (R.int IntKind.u8) (R.pair (R.int IntKind.u8) (R.pair (R.int IntKind.u8) (R.pair (R.int IntKind.u8) (R.pair (R.int IntKind.u8) (R.pair (R.pair R.bool (R.pair R.bool (R.pair R.bool (R.pair R.bool (R.pair R.bool (R.pair R.bool R.bool)))))) (R.pair (R.int IntKind.u16) (R.int IntKind.u16)))))))))) (R.pair R.bool (R.pair R.bool (R.pair R.bool (R.pair (R.int IntKind.u8) (R.pair R.bool (R.pair R.bool (R.pair R.bool (R.pair R.bool (R.pair R.bool (R.pair R.bool R.bool)))))))))))) (R.pair (R.int IntKind.i64) (R.pair (R.sl (R.int IntKind.u8)) (R.pair (RY) (R.pair (R.int IntKind.i64) R.bool)))))], [.many (R.pair (R.pair (R.int IntKind.i64) (R.pair (R.pair (R.int IntKind.u8) (R.pair (R.int IntKind.u8) (R.pair (R.int IntKind.u8) (R.pair (R.int IntKind.u8) (R.pair (R.int IntKind.u8) (R.pair (R.int IntKind.u8) (R.pair (R.int IntKind.u8) (R.pair (R.pair R.bool (R.pair R.bool (R.pair R.bool (R.pair R.bool (R.pair R.bool (R.pair R.bool R.bool)))))) (R.pair (R.int IntKind.u16) (R.int IntKind.u16)))))))))) (R.pair R.bool (R.pair R.bool (R.pair R.bool (R.pair (R.int IntKind.u8) (R.pair R.bool (R.pair R.bool (R.pair R.bool (R.pair R.bool (R.pair R.bool (R.pair R.bool R.bool)))))))))))) (R.pair (R.int IntKind.i64) (R.pair (R.sl (R.int IntKind.u8)) (R.pair (RY) (R.pair (R.int IntKind.i64) R.bool)))))]], stgs := [] }


noncomputable def lStrL0T (a : List Int × Bool × Int × Int × Int × List Int × Int × (TC × Int × List Int × TY × Int × Bool) × (TC × Int × List Int × TY × Int × Bool) × PUnit) : RT (Option (Go1 (List Int × Bool × Int × Int × Int × List Int × Int × (TC × Int × List Int × TY × Int × Bool) × (TC × Int × List Int × TY × Int × Bool) × PUnit))) :=
  let x1 : Int := a.2.2.2.2.2.2.2.2.1.2.2.2.2.1
  let x2 : Bool := rAccepts a.2.2.2.2.2.2.2.2.1.2.2.2.1.1
  .br (decide (a.2.2.2.2.1 > 0) && bif x1 == 2 then x2 else x1 == 7 && x2)
  (.br (roomB a.2.2.2.2.2.2.2.2.1)
   (.leaf (some (Go1.cont (a.1, a.2.1, a.2.2.1, a.2.2.2.1, IntKind.i64.wrap (a.2.2.2.2.1 - 1), a.2.2.2.2.2.1, a.2.2.2.2.2.2.1, a.2.2.2.2.2.2.2.1, (clkX a.2.2.2.2.2.2.2.2.1 (false, false, false, false, false, false, false, false, false) 0).1, PUnit.unit))))
   (.leaf none))
  (.leaf (some (Go1.brk (a.1, a.2.1, a.2.2.1, a.2.2.2.1, a.2.2.2.2.1, a.2.2.2.2.2.1, a.2.2.2.2.2.2.1, a.2.2.2.2.2.2.2.1, a.2.2.2.2.2.2.2.2.1, PUnit.unit))))

noncomputable def lStrL0O : Ora := loopE true lStrL0c lStrL0T (fun a => 5)

theorem lStrL0_ok : OraOk (envX Tryz.prog [(15, kKnE), (16, Ststatemake_FromE), (18, nChipE), (23, pClock1E), (28, pNew1E), (29, nOpcodeE), (30, nNextE), (31, rAcceptsE), (32, rSameBE)] [] 1023 8) (.block 2 (.loop (bodyIn Tryz.f4.body 2))) lStrL0O :=
  loop_part (envX_ok (l := [(15, kKnE), (16, Ststatemake_FromE), (18, nChipE), (23, pClock1E), (28, pNew1E), (29, nOpcodeE), (30, nNextE), (31, rAcceptsE), (32, rSameBE)]) ⟨kKn_ok, Ststatemake_From_ok, nChip_ok, pClock1_ok, pNew1_ok, nOpcode_ok, nNext_ok, rAccepts_ok, rSameB_ok, trivial⟩ [] 1023 8) (loopsOk_bare (by kernel_rfl)) (fun a => by kernel_rfl)

def lStrL1c : LS := { n := 121, slots := [(0, .code (Sh.one (R.sl (R.int IntKind.i64)))), (2, .code (Sh.one R.bool)), (3, .fix (A.loc 0 0)), (4, .fix (A.loc 1 0)), (5, .fix (A.loc 2 0)), (6, .code (Sh.one (R.int IntKind.i64))), (7, .code (Sh.one (R.int IntKind.u8))), (9, .code (Sh.one (R.int IntKind.i64)))], boxes := [[.code (.sl (R.int IntKind.i64)), .code (.int IntKind.i64)], [.many (R.pair (R.pair (R.int IntKind.i64) (R.pair (R.pair (R.int IntKind.u8) (R.pair (R.int IntKind.u8) (R.pair (R.int IntKind.u8) (R.pair (R.int IntKind.u8) (R.pair (R.int IntKind.u8) (R.pair (R.int IntKind.u8) (R.pair (R.int IntKind.u8) (R.pair (R.pair R.bool (R.pair R.bool (R.pair R.bool (R.pair R.bool (R.pair R.bool (R.pair R.bool R.bool)))))) (R.pair (R.int IntKind.u16) (R.int IntKind.u16)))))))))) (R.pair R.bool (R.pair R.bool (R.pair R.bool (R.pair (R.int IntKind.u8) (R.pair R.bool (R.pair R.bool (R.pair R.bool (R.pair R.bool (R.pair R.bool (R.pair R.bool R.bool)))))))))))) (R.pair (R.int IntKind.i64) (R.pair (R.sl (R.int IntKind.u8)) (R.pair (RY) (R.pair (R.int IntKind.i64) R.bool)))))], [.many (R.pair (R.pair (R.int IntKind.i64) (R.pair (R.pair (R.int IntKind.u8) (R.pair (R.int IntKind.u8) (R.pair (R.int IntKind.u8) (R.pair (R.int IntKind.u8) (R.pair (R.int IntKind.u8) (R.pair (R.int IntKind.u8) (R.pair (R.int IntKind.u8) (R.pair (R.pair R.bool (R.pair R.bool (R.pair R.bool (R.pair R.bool (R.pair R.bool (R.pair R.bool R.bool)))))) (R.pair (R.int IntKind.u16) (R.int IntKind.u16)))))))))) (R.pair R.bool (R.pair R.bool (R.pair R.bool (R.pair (R.int IntKind.u8) (R.pair R.bool (R.pair R.bool (R.pair R.bool (R.pair R.bool (R.pair R.bool (R.pair R.bool R.bool)))))))))))) (R.pair (R.int IntKind.i64) (R.pair (R.sl (R.int IntKind.u8)) (R.pair (RY) (R.pair (R.int IntKind.i64) R.bool)))))]], stgs := [] }


noncomputable def lStrL1T (a : List Int × Bool × Int × Int × Int × List Int × Int × (TC × Int × List Int × TY × Int × Bool) × (TC × Int × List Int × TY × Int × Bool) × PUnit) : RT (Option (Go1 (List Int × Bool × Int × Int × Int × List Int × Int × (TC × Int × List Int × TY × Int × Bool) × (TC × Int × List Int × TY × Int × Bool) × PUnit))) :=
  let x1 : List Int × Int := (a.2.2.2.2.2.1, a.2.2.2.2.2.2.1)
  let x2 : Bool := nNextC x1 3
  let x3 : Bool := !x2 || roomB a.2.2.2.2.2.2.2.2.1
  let x4 : Int × List Int × Int := nNext x1 3
  let x5 : List Int × Int := x4.2
  .br (decide (a.2.2.2.2.1 < 3) && a.2.2.2.2.2.2.2.2.1.2.2.2.2.1 == 8)
  (.br (!x3 || x2)
   (.br (x3)
    (.leaf (some (Go1.cont (a.1, a.2.1, a.2.2.1, a.2.2.2.1, IntKind.i64.wrap (a.2.2.2.2.1 + 1), x5.1, x5.2, a.2.2.2.2.2.2.2.1, (clkX a.2.2.2.2.2.2.2.2.1 (true, decide (a.2.2.2.2.1 < x4.1), false, false, false, false, false, false, false) 0).1, PUnit.unit))))
    (.leaf none))
   (.leaf none))
  (.leaf (some (Go1.brk (a.1, a.2.1, a.2.2.1, a.2.2.2.1, a.2.2.2.2.1, a.2.2.2.2.2.1, a.2.2.2.2.2.2.1, a.2.2.2.2.2.2.2.1, a.2.2.2.2.2.2.2.2.1, PUnit.unit))))

noncomputable def lStrL1O : Ora := loopE true lStrL1c lStrL1T (fun a => 5)

theorem lStrL1_ok : OraOk (envX Tryz.prog [(15, kKnE), (16, Ststatemake_FromE), (18, nChipE), (23, pClock1E), (28, pNew1E), (29, nOpcodeE), (30, nNextE), (31, rAcceptsE), (32, rSameBE)] [] 1023 8) (.block 4 (.loop (bodyIn Tryz.f4.body 4))) lStrL1O :=
  loop_part (envX_ok (l := [(15, kKnE), (16, Ststatemake_FromE), (18, nChipE), (23, pClock1E), (28, pNew1E), (29, nOpcodeE), (30, nNextE), (31, rAcceptsE), (32, rSameBE)]) ⟨kKn_ok, Ststatemake_From_ok, nChip_ok, pClock1_ok, pNew1_ok, nOpcode_ok, nNext_ok, rAccepts_ok, rSameB_ok, trivial⟩ [] 1023 8) (loopsOk_bare (by kernel_rfl)) (fun a => by kernel_rfl)

def lStrL2c : LS := { n := 121, slots := [(0, .code (Sh.one (R.sl (R.int IntKind.i64)))), (2, .code (Sh.one R.bool)), (3, .fix (A.loc 0 0)), (4, .fix (A.loc 1 0)), (5, .fix (A.loc 2 0)), (6, .code (Sh.one (R.int IntKind.i64)))], boxes := [[.code (.sl (R.int IntKind.i64)), .code (.int IntKind.i64)], [.many (R.pair (R.pair (R.int IntKind.i64) (R.pair (R.pair (R.int IntKind.u8) (R.pair (R.int IntKind.u8) (R.pair (R.int IntKind.u8) (R.pair (R.int IntKind.u8) (R.pair (R.int IntKind.u8) (R.pair (R.int IntKind.u8) (R.pair (R.int IntKind.u8) (R.pair (R.pair R.bool (R.pair R.bool (R.pair R.bool (R.pair R.bool (R.pair R.bool (R.pair R.bool R.bool)))))) (R.pair (R.int IntKind.u16) (R.int IntKind.u16)))))))))) (R.pair R.bool (R.pair R.bool (R.pair R.bool (R.pair (R.int IntKind.u8) (R.pair R.bool (R.pair R.bool (R.pair R.bool (R.pair R.bool (R.pair R.bool (R.pair R.bool R.bool)))))))))))) (R.pair (R.int IntKind.i64) (R.pair (R.sl (R.int IntKind.u8)) (R.pair (RY) (R.pair (R.int IntKind.i64) R.bool)))))], [.many (R.pair (R.pair (R.int IntKind.i64) (R.pair (R.pair (R.int IntKind.u8) (R.pair (R.int IntKind.u8) (R.pair (R.int IntKind.u8) (R.pair (R.int IntKind.u8) (R.pair (R.int IntKind.u8) (R.pair (R.int IntKind.u8) (R.pair (R.int IntKind.u8) (R.pair (R.pair R.bool (R.pair R.bool (R.pair R.bool (R.pair R.bool (R.pair R.bool (R.pair R.bool R.bool)))))) (R.pair (R.int IntKind.u16) (R.int IntKind.u16)))))))))) (R.pair R.bool (R.pair R.bool (R.pair R.bool (R.pair (R.int IntKind.u8) (R.pair R.bool (R.pair R.bool (R.pair R.bool (R.pair R.bool (R.pair R.bool (R.pair R.bool R.bool)))))))))))) (R.pair (R.int IntKind.i64) (R.pair (R.sl (R.int IntKind.u8)) (R.pair (RY) (R.pair (R.int IntKind.i64) R.bool)))))]], stgs := [] }


noncomputable def lStrL2T (a : List Int × Bool × Int × List Int × Int × (TC × Int × List Int × TY × Int × Bool) × (TC × Int × List Int × TY × Int × Bool) × PUnit) : RT (Option (Go1 (List Int × Bool × Int × List Int × Int × (TC × Int × List Int × TY × Int × Bool) × (TC × Int × List Int × TY × Int × Bool) × PUnit))) :=
  let x1 : Bool := !nOpcodeC (a.2.2.2.1, a.2.2.2.2.1)
  let x2 : List Int × Int := (nOpcode (a.2.2.2.1, a.2.2.2.2.1)).2
  let x3 : Bool := nNextC x2 3
  let x4 : Bool := !x3
  let x5 : Int × List Int × Int := nNext x2 3
  let x6 : List Int × Int := x5.2
  let x7 : List Int × Bool × Int × Int × Int × List Int × Int × (TC × Int × List Int × TY × Int × Bool) × (TC × Int × List Int × TY × Int × Bool) × PUnit := (a.1, a.2.1, a.2.2.1, (nOpcode (a.2.2.2.1, a.2.2.2.2.1)).1, x5.1, x6.1, x6.2, a.2.2.2.2.2.1, a.2.2.2.2.2.2.1, ())
  let x8 : Option (Bool × List Int × Bool × Int × Int × Int × List Int × Int × (TC × Int × List Int × TY × Int × Bool) × (TC × Int × List Int × TY × Int × Bool) × PUnit) := runF true lStrL0T (fun a_1 => 5) x7
  let x9 : Bool := okB x8
  let x10 : Bool := !x9
  let x11 : Bool × List Int × Bool × Int × Int × Int × List Int × Int × (TC × Int × List Int × TY × Int × Bool) × (TC × Int × List Int × TY × Int × Bool) × PUnit := getO (false, x7) x8
  let x12 : Bool := x11.1
  let x13 : List Int × Bool × Int × Int × Int × List Int × Int × (TC × Int × List Int × TY × Int × Bool) × (TC × Int × List Int × TY × Int × Bool) × PUnit := x11.2
  let x14 : Bool × Int × Int × Int × List Int × Int × (TC × Int × List Int × TY × Int × Bool) × (TC × Int × List Int × TY × Int × Bool) × PUnit := x13.2
  let x15 : Int × Int × Int × List Int × Int × (TC × Int × List Int × TY × Int × Bool) × (TC × Int × List Int × TY × Int × Bool) × PUnit := x14.2
  let x16 : Int × Int × List Int × Int × (TC × Int × List Int × TY × Int × Bool) × (TC × Int × List Int × TY × Int × Bool) × PUnit := x15.2
  let x17 : List Int × Int × (TC × Int × List Int × TY × Int × Bool) × (TC × Int × List Int × TY × Int × Bool) × PUnit := x16.2.2
  let x18 : List Int := x17.1
  let x19 : Int × (TC × Int × List Int × TY × Int × Bool) × (TC × Int × List Int × TY × Int × Bool) × PUnit := x17.2
  let x20 : Int := x19.1
  let x21 : List Int × Int := (x18, x20)
  let x22 : Bool := nNextC x21 4
  let x23 : Bool := !x22
  let x24 : (TC × Int × List Int × TY × Int × Bool) × (TC × Int × List Int × TY × Int × Bool) × PUnit := x19.2
  let x25 : TC × Int × List Int × TY × Int × Bool := x24.2.1
  let x26 : Bool := x23 || roomB x25
  let x27 : Bool := !x26
  let x28 : List Int := x13.1
  let x29 : Bool := x14.1
  let x30 : Int := x15.1
  let x31 : Int := x16.1
  let x32 : Int × List Int × Int := nNext x21 4
  let x33 : List Int × Int := x32.2
  let x34 : TC × Int × List Int × TY × Int × Bool := x24.1
  let x35 : List Int × Bool × Int × Int × Int × List Int × Int × (TC × Int × List Int × TY × Int × Bool) × (TC × Int × List Int × TY × Int × Bool) × PUnit := (x28, x29, x30, x31, 0, x33.1, x33.2, x34, (clkX x25 (true, x32.1 == 1, false, false, false, false, false, false, false) x31).1, ())
  let x36 : Option (Bool × List Int × Bool × Int × Int × Int × List Int × Int × (TC × Int × List Int × TY × Int × Bool) × (TC × Int × List Int × TY × Int × Bool) × PUnit) := runF true lStrL1T (fun a_1 => 5) x35
  let x37 : Bool := okB x36
  let x38 : Bool × List Int × Bool × Int × Int × Int × List Int × Int × (TC × Int × List Int × TY × Int × Bool) × (TC × Int × List Int × TY × Int × Bool) × PUnit := getO (false, x35) x36
  let x39 : Bool := x38.1
  let x40 : List Int × Bool × Int × Int × Int × List Int × Int × (TC × Int × List Int × TY × Int × Bool) × (TC × Int × List Int × TY × Int × Bool) × PUnit := x38.2
  let x41 : Bool × Int × Int × Int × List Int × Int × (TC × Int × List Int × TY × Int × Bool) × (TC × Int × List Int × TY × Int × Bool) × PUnit := x40.2
  let x42 : Int × Int × Int × List Int × Int × (TC × Int × List Int × TY × Int × Bool) × (TC × Int × List Int × TY × Int × Bool) × PUnit := x41.2
  let x43 : Int × Int × List Int × Int × (TC × Int × List Int × TY × Int × Bool) × (TC × Int × List Int × TY × Int × Bool) × PUnit := x42.2
  let x44 : List Int × Int × (TC × Int × List Int × TY × Int × Bool) × (TC × Int × List Int × TY × Int × Bool) × PUnit := x43.2.2
  let x45 : Int × (TC × Int × List Int × TY × Int × Bool) × (TC × Int × List Int × TY × Int × Bool) × PUnit := x44.2
  let x46 : (TC × Int × List Int × TY × Int × Bool) × (TC × Int × List Int × TY × Int × Bool) × PUnit := x45.2
  let x47 : TC × Int × List Int × TY × Int × Bool := x46.1
  let x48 : List Int := x40.1
  let x49 : Bool := x41.1
  let x50 : Int := x42.1
  let x51 : List Int := x44.1
  let x52 : Int := x45.1
  let x53 : TC × Int × List Int × TY × Int × Bool := x46.2.1
  let x54 : (TC × Int × List Int × TY × Int × Bool) × PUnit := (x53, PUnit.unit)
  let x55 : TC × Int × List Int × TY × Int × Bool := (clkX x47 (true, false, false, false, false, false, false, false, false) x43.1).1
  let x56 : TC := x55.1
  let x57 : TC := x53.1
  let x58 : TR × Bool × Bool × Bool × Int × Bool × Bool × Bool × Bool × Bool × Bool × Bool := x56.2
  let x59 : TR := x58.1
  let x60 : TR × Bool × Bool × Bool × Int × Bool × Bool × Bool × Bool × Bool × Bool × Bool := x57.2
  let x61 : TR := x60.1
  let x62 : Int × Int × Int × Int × Int × Int × TF × Int × Int := x59.2
  let x63 : Int × Int × Int × Int × Int × Int × TF × Int × Int := x61.2
  let x64 : Int × Int × Int × Int × Int × TF × Int × Int := x62.2
  let x65 : Int × Int × Int × Int × Int × TF × Int × Int := x63.2
  let x66 : Int × Int × Int × Int × TF × Int × Int := x64.2
  let x67 : Int × Int × Int × Int × TF × Int × Int := x65.2
  let x68 : Int × Int × Int × TF × Int × Int := x66.2
  let x69 : Int × Int × Int × TF × Int × Int := x67.2
  let x70 : Int × Int × TF × Int × Int := x68.2
  let x71 : Int × Int × TF × Int × Int := x69.2
  let x72 : Int × TF × Int × Int := x70.2
  let x73 : Int × TF × Int × Int := x71.2
  let x74 : TF × Int × Int := x72.2
  let x75 : TF := x74.1
  let x76 : TF × Int × Int := x73.2
  let x77 : TF := x76.1
  let x78 : Bool × Bool × Bool × Bool × Bool × Bool := x75.2
  let x79 : Bool × Bool × Bool × Bool × Bool × Bool := x77.2
  let x80 : Bool × Bool × Bool × Bool × Bool := x78.2
  let x81 : Bool × Bool × Bool × Bool × Bool := x79.2
  let x82 : Bool × Bool × Bool × Bool := x80.2
  let x83 : Bool × Bool × Bool × Bool := x81.2
  let x84 : Bool × Bool × Bool := x82.2
  let x85 : Bool × Bool × Bool := x83.2
  let x86 : Bool × Bool := x84.2
  let x87 : Bool × Bool := x85.2
  let x88 : Int × Int := x74.2
  let x89 : Int × Int := x76.2
  let x90 : Bool × Bool × Bool × Int × Bool × Bool × Bool × Bool × Bool × Bool × Bool := x58.2
  let x91 : Bool × Bool × Bool × Int × Bool × Bool × Bool × Bool × Bool × Bool × Bool := x60.2
  let x92 : Bool × Bool × Int × Bool × Bool × Bool × Bool × Bool × Bool × Bool := x90.2
  let x93 : Bool × Bool × Int × Bool × Bool × Bool × Bool × Bool × Bool × Bool := x91.2
  let x94 : Bool × Int × Bool × Bool × Bool × Bool × Bool × Bool × Bool := x92.2
  let x95 : Bool × Int × Bool × Bool × Bool × Bool × Bool × Bool × Bool := x93.2
  let x96 : Int × Bool × Bool × Bool × Bool × Bool × Bool × Bool := x94.2
  let x97 : Int × Bool × Bool × Bool × Bool × Bool × Bool × Bool := x95.2
  let x98 : TF := x96.2
  let x99 : TF := x97.2
  let x100 : Bool × Bool × Bool × Bool × Bool × Bool := x98.2
  let x101 : Bool × Bool × Bool × Bool × Bool × Bool := x99.2
  let x102 : Bool × Bool × Bool × Bool × Bool := x100.2
  let x103 : Bool × Bool × Bool × Bool × Bool := x101.2
  let x104 : Bool × Bool × Bool × Bool := x102.2
  let x105 : Bool × Bool × Bool × Bool := x103.2
  let x106 : Bool × Bool × Bool := x104.2
  let x107 : Bool × Bool × Bool := x105.2
  let x108 : Bool × Bool := x106.2
  let x109 : Bool × Bool := x107.2
  let x110 : List Int × TY × Int × Bool := x55.2.2
  let x111 : TY × Int × Bool := x110.2
  let x112 : List Int × TY × Int × Bool := x53.2.2
  let x113 : TY × Int × Bool := x112.2
  let x114 : Int × Int × Int × Int := x111.1
  let x115 : Int × Int × Int × Int := x113.1
  let x116 : Int × Int × Int := x114.2
  let x117 : Int × Int × Int := x115.2
  let x118 : Int × Int := x116.2
  let x119 : Int × Int := x117.2
  let x120 : List Int × Int × (TC × Int × List Int × TY × Int × Bool) × (TC × Int × List Int × TY × Int × Bool) × PUnit := (x51, x52, x55, x54)
  .br (decide (a.2.2.1 < IntKind.i64.wrap (Int.tdiv (iN (List.length a.1)) 6)))
  (.br (x1 || (x4 || (x10 || (x12 || (x27 || (x23 || (!x37 || (x39 || roomB x47))))))))
   (.br (x1 || (x4 || (x10 || (x12 || (x27 || (x23 || x37))))))
    (.br (x1 || (x4 || (x10 || (x12 || (x27 || x22)))))
     (.br (x1 || (x4 || (x10 || (x12 || x26))))
      (.br (x1 || (x4 || x9))
       (.br (x1 || x3)
        (.br (nOpcodeC (a.2.2.2.1, a.2.2.2.2.1))
         (.br (x12)
          (.leaf (some (Go1.ret (x28, x29, x30, x18, x20, x34, x25, PUnit.unit))))
          (.br (x39)
           (.leaf (some (Go1.ret (x48, x49, x50, x51, x52, x47, x54))))
           (.br (!(x56.1 == x57.1 && (x59.1 == x61.1 && (x62.1 == x63.1 && (x64.1 == x65.1 && (x66.1 == x67.1 && (x68.1 == x69.1 && (x70.1 == x71.1 && (x72.1 == x73.1 && (x75.1 == x77.1 && (x78.1 == x79.1 && (x80.1 == x81.1 && (x82.1 == x83.1 && (x84.1 == x85.1 && (x86.1 == x87.1 && (x86.2 == x87.2 && (x88.1 == x89.1 && (x88.2 == x89.2 && (x90.1 == x91.1 && (x92.1 == x93.1 && (x94.1 == x95.1 && (x96.1 == x97.1 && (x98.1 == x99.1 && (x100.1 == x101.1 && (x102.1 == x103.1 && (x104.1 == x105.1 && (x106.1 == x107.1 && (x108.1 == x109.1 && (x108.2 == x109.2 && true)))))))))))))))))))))))))))) || (x111.2.1 != x113.2.1 || (!rSameB x110.1 x112.1 || !(x114.1 == x115.1 && (x116.1 == x117.1 && (x118.1 == x119.1 && (x118.2 == x119.2 && true)))))))
            (.leaf (some (Go1.ret (x48, false, x50, x120))))
            (.leaf (some (Go1.cont (x48, x49, IntKind.i64.wrap (x50 + 1), x120)))))))
         (.leaf none))
        (.leaf none))
       (.leaf none))
      (.leaf none))
     (.leaf none))
    (.leaf none))
   (.leaf none))
  (.leaf (some (Go1.brk (a.1, a.2.1, a.2.2.1, a.2.2.2.1, a.2.2.2.2.1, a.2.2.2.2.2.1, a.2.2.2.2.2.2.1, PUnit.unit))))

noncomputable def lStrL2O : Ora := loopE true lStrL2c lStrL2T (fun a => 60)

theorem lStrL2_ok : OraOk (envX Tryz.prog [(15, kKnE), (16, Ststatemake_FromE), (18, nChipE), (23, pClock1E), (28, pNew1E), (29, nOpcodeE), (30, nNextE), (31, rAcceptsE), (32, rSameBE)] [(2, lStrL0O), (4, lStrL1O)] 1023 8) (.block 0 (.loop (bodyIn Tryz.f4.body 0))) lStrL2O :=
  loop_part (envX_ok (l := [(15, kKnE), (16, Ststatemake_FromE), (18, nChipE), (23, pClock1E), (28, pNew1E), (29, nOpcodeE), (30, nNextE), (31, rAcceptsE), (32, rSameBE)]) ⟨kKn_ok, Ststatemake_From_ok, nChip_ok, pClock1_ok, pNew1_ok, nOpcode_ok, nNext_ok, rAccepts_ok, rSameB_ok, trivial⟩ [(2, lStrL0O), (4, lStrL1O)] 1023 8) (loopsOk_sub (by kernel_rfl) (by kernel_rfl) ⟨lStrL0_ok, lStrL1_ok, trivial⟩) (fun a => by kernel_rfl)

noncomputable def lStrT (n : List Int) : RT (Option (Bool)) :=
  let x1 : List Int × Bool × Int × List Int × Int × (TC × Int × List Int × TY × Int × Bool) × (TC × Int × List Int × TY × Int × Bool) × PUnit := (n, false, 0, (nChip (n, 0)).2.1, (nChip (n, 0)).2.2, newX (nChip (n, 0)).1, newX (nChip (n, 0)).1, ())
  let x2 : Option (Bool × List Int × Bool × Int × List Int × Int × (TC × Int × List Int × TY × Int × Bool) × (TC × Int × List Int × TY × Int × Bool) × PUnit) := runF true lStrL2T (fun a => 60) x1
  let x3 : Bool × List Int × Bool × Int × List Int × Int × (TC × Int × List Int × TY × Int × Bool) × (TC × Int × List Int × TY × Int × Bool) × PUnit := getO (false, x1) x2
  .br (!decide (iN (List.length n) > 300) || kKnC)
  (.br (decide (iN (List.length n) > 300))
   (.leaf (some (true)))
   (.br (nChipC (n, 0))
    (.br (okB x2)
     (.br x3.1
      (.leaf (some x3.2.2.1))
      (.br (kKnC)
       (.leaf (some (true)))
       (.leaf none)))
     (.leaf none))
    (.leaf none)))
  (.leaf none)

noncomputable def lStr (n : List Int) : Bool := getO lStrRs.dflt (lStrT n).val

noncomputable def lStrC (n : List Int) : Bool := okB (lStrT n).val

noncomputable def lStrE : Entry := pureE lStrTs lStrRs (fun a => some (lStrC a)) (fun a => lStr a)

theorem lStr_ok : EntryOk Tryz.prog 4 lStrE :=
  pure_part (P := Tryz.prog) (n := 1023) (k := 8) (l := [(15, kKnE), (16, Ststatemake_FromE), (18, nChipE), (23, pClock1E), (28, pNew1E), (29, nOpcodeE), (30, nNextE), (31, rAcceptsE), (32, rSameBE)]) (ol := [(2, lStrL0O), (4, lStrL1O), (0, lStrL2O)]) ⟨kKn_ok, Ststatemake_From_ok, nChip_ok, pClock1_ok, pNew1_ok, nOpcode_ok, nNext_ok, rAccepts_ok, rSameB_ok, trivial⟩ Tryz.func4 rfl (by kernel_rfl) Tryz.call4 ⟨lStrL0_ok, lStrL1_ok, lStrL2_ok, trivial⟩ (ts := lStrTs) (rs := lStrRs) (t := fun a => lStrT a) (fun a => by kernel_rfl)

end
end Go.Proofs.YteboknglfjadoaaGreat
