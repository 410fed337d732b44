/-
  Contracts of functions; each found by the symbolic executor and checked by the kernel. Conditions: none.
-/
import Derived.Test.YteboknglfjadoaaGreatS3D
import Derived.Test.YteboknglfjadoaaGreatProg
import Derived.Test.YteboknglfjadoaaGreatCoreEnt
import Derived.Test.YteboknglfjadoaaGreatMakeOk5
import Derived.Test.YteboknglfjadoaaGreatS3Box1
set_option linter.unusedSimpArgs false
open Go Go.S3 Go.Proofs
set_option linter.unusedVariables false
set_option maxRecDepth 100000
namespace Go.Proofs.YteboknglfjadoaaGreat
noncomputable section
abbrev kKnTs : List Sh := []

abbrev kKnRs : Rs := Rs.one (Sh.one R.bool)

noncomputable def kKnT : RT (Option (Bool)) :=
  let x1 : Bool × Bool × Bool × Bool × Bool × Bool × Bool × Bool × Bool := (true, false, false, false, false, false, false, false, false)
  let x2 : TC × Int × List Int × TY × Int × Bool := (clkX (newX 1) x1 0).1
  let x3 : Bool := roomB x2
  let x4 : Bool := !x3
  let x5 : TC × Int × List Int × TY × Int × Bool := (clkX x2 x1 0).1
  let x6 : Bool := roomB x5
  let x7 : Bool := !x6
  let x8 : TC × Int × List Int × TY × Int × Bool := (clkX x5 x1 0).1
  let x9 : Bool := roomB x8
  .br (!roomB (newX 1) || (x4 || (x7 || (!x9 || roomB (clkX x8 x1 0).1))))
  (.br (!roomB (newX 1) || (x4 || (x7 || x9)))
   (.br (!roomB (newX 1) || (x4 || x6))
    (.br (!roomB (newX 1) || x3)
     (.br (roomB (newX 1))
      (.leaf (some (true)))
      (.leaf none))
     (.leaf none))
    (.leaf none))
   (.leaf none))
  (.leaf none)

noncomputable def kKn : Bool := getO kKnRs.dflt (kKnT ).val

noncomputable def kKnC : Bool := okB (kKnT ).val

noncomputable def kKnE : Entry := pureE kKnTs kKnRs (fun a => some (kKnC )) (fun a => kKn )

theorem kKn_ok : EntryOk Tryz.prog 15 kKnE :=
  pure_part (P := Tryz.prog) (n := 63) (k := 8) (l := [(23, pClock1E), (28, pNew1E)]) (ol := []) ⟨pClock1_ok, pNew1_ok, trivial⟩ Tryz.func15 rfl (by kernel_rfl) Tryz.call15 trivial (ts := kKnTs) (rs := kKnRs) (t := fun a => kKnT ) (fun a => by kernel_rfl)

abbrev lBeginsTs : List Sh := [Sh.one (R.int IntKind.i64), Sh.one (R.int IntKind.i64)]

abbrev lBeginsRs : Rs := Rs.one (Sh.one R.bool)

noncomputable def lBeginsT (chip : Int) (kind : Int) : RT (Option (Bool)) :=
  .br (mPlaceC kind 14)
  (.br (!rSame (newX chip) (newX chip) || (!rSame (newX 2) (newX 2) || (!pAcc kind == rAccepts kind || (!pAcc (mPlace kind 14) == rAccepts (mPlace kind 14) || (!!pBusy (newX chip) || kKnC)))))
   (.leaf (some (rSame (newX chip) (newX chip) && (rSame (newX 2) (newX 2) && (pAcc kind == rAccepts kind && (pAcc (mPlace kind 14) == rAccepts (mPlace kind 14) && (!pBusy (newX chip) && kKn)))))))
   (.leaf none))
  (.leaf none)

noncomputable def lBegins (chip : Int) (kind : Int) : Bool := getO lBeginsRs.dflt (lBeginsT chip kind).val

noncomputable def lBeginsC (chip : Int) (kind : Int) : Bool := okB (lBeginsT chip kind).val

noncomputable def lBeginsE : Entry := pureE lBeginsTs lBeginsRs (fun a => some (lBeginsC a.1 a.2)) (fun a => lBegins a.1 a.2)

theorem lBegins_ok : EntryOk Tryz.prog 8 lBeginsE :=
  pure_part (P := Tryz.prog) (n := 63) (k := 8) (l := [(15, kKnE), (17, rNew1E), (28, pNew1E), (31, rAcceptsE), (35, mPlaceE), (38, rSameE), (39, pBusyE), (42, pAccE)]) (ol := []) ⟨kKn_ok, rNew1_ok, pNew1_ok, rAccepts_ok, mPlace_ok, rSame_ok, pBusy_ok, pAcc_ok, trivial⟩ Tryz.func8 rfl (by kernel_rfl) Tryz.call8 trivial (ts := lBeginsTs) (rs := lBeginsRs) (t := fun a => lBeginsT a.1 a.2) (fun a => by kernel_rfl)

abbrev lPlayRb : R := R.pair (R.sl (R.int IntKind.i64)) (R.int IntKind.i64)

abbrev lPlayTs : List Sh := [Sh.agg (R.pair (R.pair (R.int IntKind.i64) (R.pair (R.pair (R.int IntKind.u8) (R.pair (R.int IntKind.u8) (R.pair (R.int IntKind.u8) (R.pair (R.int IntKind.u8) (R.pair (R.int IntKind.u8) (R.pair (R.int IntKind.u8) (R.pair (R.int IntKind.u8) (R.pair (R.pair R.bool (R.pair R.bool (R.pair R.bool (R.pair R.bool (R.pair R.bool (R.pair R.bool R.bool)))))) (R.pair (R.int IntKind.u16) (R.int IntKind.u16)))))))))) (R.pair R.bool (R.pair R.bool (R.pair R.bool (R.pair (R.int IntKind.u8) (R.pair R.bool (R.pair R.bool (R.pair R.bool (R.pair R.bool (R.pair R.bool (R.pair R.bool R.bool)))))))))))) (R.pair (R.int IntKind.i64) (R.pair (R.sl (R.int IntKind.u8)) (R.pair (RY) (R.pair (R.int IntKind.i64) R.bool))))), Sh.one (R.int IntKind.i64)]

abbrev lPlayRs : Rs := Rs.tup [Sh.agg (R.pair (R.pair (R.int IntKind.i64) (R.pair (R.pair (R.int IntKind.u8) (R.pair (R.int IntKind.u8) (R.pair (R.int IntKind.u8) (R.pair (R.int IntKind.u8) (R.pair (R.int IntKind.u8) (R.pair (R.int IntKind.u8) (R.pair (R.int IntKind.u8) (R.pair (R.pair R.bool (R.pair R.bool (R.pair R.bool (R.pair R.bool (R.pair R.bool (R.pair R.bool R.bool)))))) (R.pair (R.int IntKind.u16) (R.int IntKind.u16)))))))))) (R.pair R.bool (R.pair R.bool (R.pair R.bool (R.pair (R.int IntKind.u8) (R.pair R.bool (R.pair R.bool (R.pair R.bool (R.pair R.bool (R.pair R.bool (R.pair R.bool R.bool)))))))))))) (R.pair (R.int IntKind.i64) (R.pair (R.sl (R.int IntKind.u8)) (R.pair (RY) (R.pair (R.int IntKind.i64) R.bool))))), Sh.one R.bool]

def lPlayL0c : LS := { n := 64, slots := [(1, .fix (A.loc 0 0)), (2, .code (Sh.one (R.int IntKind.i64))), (3, .fix (A.loc 1 0)), (6, .fix (A.loc 2 0)), (7, .code (Sh.one R.bool)), (8, .fix (A.loc 3 0)), (9, .code (Sh.one (R.int IntKind.i64)))], boxes := [[.code (.sl (R.int IntKind.i64)), .code (.int IntKind.i64)], [.many (R.pair (R.pair (R.int IntKind.i64) (R.pair (R.pair (R.int IntKind.u8) (R.pair (R.int IntKind.u8) (R.pair (R.int IntKind.u8) (R.pair (R.int IntKind.u8) (R.pair (R.int IntKind.u8) (R.pair (R.int IntKind.u8) (R.pair (R.int IntKind.u8) (R.pair (R.pair R.bool (R.pair R.bool (R.pair R.bool (R.pair R.bool (R.pair R.bool (R.pair R.bool R.bool)))))) (R.pair (R.int IntKind.u16) (R.int IntKind.u16)))))))))) (R.pair R.bool (R.pair R.bool (R.pair R.bool (R.pair (R.int IntKind.u8) (R.pair R.bool (R.pair R.bool (R.pair R.bool (R.pair R.bool (R.pair R.bool (R.pair R.bool R.bool)))))))))))) (R.pair (R.int IntKind.i64) (R.pair (R.sl (R.int IntKind.u8)) (R.pair (RY) (R.pair (R.int IntKind.i64) R.bool)))))], [.many (R.pair (R.pair (R.int IntKind.i64) (R.pair (R.pair (R.int IntKind.u8) (R.pair (R.int IntKind.u8) (R.pair (R.int IntKind.u8) (R.pair (R.int IntKind.u8) (R.pair (R.int IntKind.u8) (R.pair (R.int IntKind.u8) (R.pair (R.int IntKind.u8) (R.pair (R.pair R.bool (R.pair R.bool (R.pair R.bool (R.pair R.bool (R.pair R.bool (R.pair R.bool R.bool)))))) (R.pair (R.int IntKind.u16) (R.int IntKind.u16)))))))))) (R.pair R.bool (R.pair R.bool (R.pair R.bool (R.pair (R.int IntKind.u8) (R.pair R.bool (R.pair R.bool (R.pair R.bool (R.pair R.bool (R.pair R.bool (R.pair R.bool R.bool)))))))))))) (R.pair (R.int IntKind.i64) (R.pair (R.sl (R.int IntKind.u8)) (R.pair (RY) (R.pair (R.int IntKind.i64) R.bool)))))], [.many (R.pair (R.pair (R.int IntKind.i64) (R.pair (R.pair (R.int IntKind.u8) (R.pair (R.int IntKind.u8) (R.pair (R.int IntKind.u8) (R.pair (R.int IntKind.u8) (R.pair (R.int IntKind.u8) (R.pair (R.int IntKind.u8) (R.pair (R.int IntKind.u8) (R.pair (R.pair R.bool (R.pair R.bool (R.pair R.bool (R.pair R.bool (R.pair R.bool (R.pair R.bool R.bool)))))) (R.pair (R.int IntKind.u16) (R.int IntKind.u16)))))))))) (R.pair R.bool (R.pair R.bool (R.pair R.bool (R.pair (R.int IntKind.u8) (R.pair R.bool (R.pair R.bool (R.pair R.bool (R.pair R.bool (R.pair R.bool (R.pair R.bool R.bool)))))))))))) (R.pair (R.int IntKind.i64) (R.pair (R.sl (R.int IntKind.u8)) (R.pair (RY) (R.pair (R.int IntKind.i64) R.bool)))))]], stgs := [] }

noncomputable def lPlayL0T (a : Int × Bool × Int × List Int × Int × (TC × Int × List Int × TY × Int × Bool) × (TC × Int × List Int × TY × Int × Bool) × (TC × Int × List Int × TY × Int × Bool) × PUnit) : RT (Option (Go1 (Int × Bool × Int × List Int × Int × (TC × Int × List Int × TY × Int × Bool) × (TC × Int × List Int × TY × Int × Bool) × (TC × Int × List Int × TY × Int × Bool) × PUnit))) :=
  let x1 : Bool := !nLinesC (a.2.2.2.1, a.2.2.2.2.1)
  let x2 : List Int × Int := (nLines (a.2.2.2.1, a.2.2.2.2.1)).2
  let x3 : Bool := x1 || nOpcodeC x2
  let x4 : Bool := !x3
  let x5 : Int × List Int × Int := nOpcode x2
  let x6 : List Int × Int := x5.2
  let x7 : Bool := nNextC x6 30
  let x8 : Bool := !x7
  let x9 : Bool × Bool × Bool × Bool × Bool × Bool × Bool × Bool × Bool := (nLines (a.2.2.2.1, a.2.2.2.2.1)).1
  let x10 : Bool × Bool × Bool × Bool × Bool × Bool × Bool × Bool := x9.2
  let x11 : Int × List Int × Int := nNext x6 30
  let x12 : Bool × Bool × Bool × Bool × Bool × Bool × Bool × Bool × Bool := (x9.1, x10.1, x11.1 == 1, x10.2.2)
  let x13 : Int := x5.1
  let x14 : (TC × Int × List Int × TY × Int × Bool) × Int × Int × Int × Bool × Bool × Bool × Bool × Bool × Bool × Bool × Bool × Bool × Bool × Bool × Bool × Bool × Bool := clkX a.2.2.2.2.2.1 x12 x13
  let x15 : TC × Int × List Int × TY × Int × Bool := x14.1
  let x16 : (TC × Int × List Int × TY × Int × Bool) × Int × Int × Int × Bool × Bool × Bool × Bool × Bool × Bool × Bool × Bool × Bool × Bool × Bool × Bool × Bool × Bool := clkX a.2.2.2.2.2.2.2.1 x12 x13
  let x17 : TC × Int × List Int × TY × Int × Bool := x16.1
  let x18 : Int × Int × Int × Bool × Bool × Bool × Bool × Bool × Bool × Bool × Bool × Bool × Bool × Bool × Bool × Bool × Bool := x14.2
  let x19 : Int × Int × Int × Bool × Bool × Bool × Bool × Bool × Bool × Bool × Bool × Bool × Bool × Bool × Bool × Bool × Bool := x16.2
  let x20 : Int × Int × Bool × Bool × Bool × Bool × Bool × Bool × Bool × Bool × Bool × Bool × Bool × Bool × Bool × Bool := x18.2
  let x21 : Int × Int × Bool × Bool × Bool × Bool × Bool × Bool × Bool × Bool × Bool × Bool × Bool × Bool × Bool × Bool := x19.2
  let x22 : Int × Bool × Bool × Bool × Bool × Bool × Bool × Bool × Bool × Bool × Bool × Bool × Bool × Bool × Bool := x20.2
  let x23 : Int × Bool × Bool × Bool × Bool × Bool × Bool × Bool × Bool × Bool × Bool × Bool × Bool × Bool × Bool := x21.2
  let x24 : Bool × Bool × Bool × Bool × Bool × Bool × Bool × Bool × Bool × Bool × Bool × Bool × Bool × Bool := x22.2
  let x25 : Bool × Bool × Bool × Bool × Bool × Bool × Bool × Bool × Bool × Bool × Bool × Bool × Bool × Bool := x23.2
  let x26 : Bool × Bool × Bool × Bool × Bool × Bool × Bool × Bool × Bool × Bool × Bool × Bool × Bool := x24.2
  let x27 : Bool × Bool × Bool × Bool × Bool × Bool × Bool × Bool × Bool × Bool × Bool × Bool × Bool := x25.2
  let x28 : Bool × Bool × Bool × Bool × Bool × Bool × Bool × Bool × Bool × Bool × Bool × Bool := x26.2
  let x29 : Bool × Bool × Bool × Bool × Bool × Bool × Bool × Bool × Bool × Bool × Bool × Bool := x27.2
  let x30 : Bool × Bool × Bool × Bool × Bool × Bool × Bool × Bool × Bool × Bool × Bool := x28.2
  let x31 : Bool × Bool × Bool × Bool × Bool × Bool × Bool × Bool × Bool × Bool × Bool := x29.2
  let x32 : Bool × Bool × Bool × Bool × Bool × Bool × Bool × Bool × Bool × Bool := x30.2
  let x33 : Bool × Bool × Bool × Bool × Bool × Bool × Bool × Bool × Bool × Bool := x31.2
  let x34 : Bool × Bool × Bool × Bool × Bool × Bool × Bool × Bool × Bool := x32.2
  let x35 : Bool × Bool × Bool × Bool × Bool × Bool × Bool × Bool × Bool := x33.2
  let x36 : Bool × Bool × Bool × Bool × Bool × Bool × Bool × Bool := x34.2
  let x37 : Bool × Bool × Bool × Bool × Bool × Bool × Bool × Bool := x35.2
  let x38 : TF := x36.2
  let x39 : TF := x37.2
  let x40 : Bool × Bool × Bool × Bool × Bool × Bool := x38.2
  let x41 : Bool × Bool × Bool × Bool × Bool × Bool := x39.2
  let x42 : Bool × Bool × Bool × Bool × Bool := x40.2
  let x43 : Bool × Bool × Bool × Bool × Bool := x41.2
  let x44 : Bool × Bool × Bool × Bool := x42.2
  let x45 : Bool × Bool × Bool × Bool := x43.2
  let x46 : Bool × Bool × Bool := x44.2
  let x47 : Bool × Bool × Bool := x45.2
  let x48 : Bool × Bool := x46.2
  let x49 : Bool × Bool := x47.2
  let x50 : List Int × Int := x11.2
  let x51 : List Int := x50.1
  let x52 : Int := x50.2
  .br (decide (a.2.2.1 < a.1))
  (.br (x4 || (x1 || (x8 || (!roomB a.2.2.2.2.2.1 || roomB a.2.2.2.2.2.2.2.1))))
   (.br (x4 || (x1 || (x8 || roomB a.2.2.2.2.2.1)))
    (.br (x4 || (x1 || x7))
     (.br (x4 || nLinesC (a.2.2.2.1, a.2.2.2.2.1))
      (.br (x3)
       (.br (!rSame x15 x17 || (!(x18.1 == x19.1 && (x20.1 == x21.1 && (x22.1 == x23.1 && (x24.1 == x25.1 && (x26.1 == x27.1 && (x28.1 == x29.1 && (x30.1 == x31.1 && (x32.1 == x33.1 && (x34.1 == x35.1 && (x36.1 == x37.1 && (x38.1 == x39.1 && (x40.1 == x41.1 && (x42.1 == x43.1 && (x44.1 == x45.1 && (x46.1 == x47.1 && (x48.1 == x49.1 && (x48.2 == x49.2 && true))))))))))))))))) || !pBusy x15 == rBusy x17))
        (.leaf (some (Go1.ret (a.1, false, a.2.2.1, x51, x52, a.2.2.2.2.2.1, a.2.2.2.2.2.1, a.2.2.2.2.2.2.2.1, PUnit.unit))))
        (.leaf (some (Go1.cont (a.1, a.2.1, IntKind.i64.wrap (a.2.2.1 + 1), x51, x52, x15, a.2.2.2.2.2.2.1, x17, PUnit.unit)))))
       (.leaf none))
      (.leaf none))
     (.leaf none))
    (.leaf none))
   (.leaf none))
  (.leaf (some (Go1.brk (a.1, a.2.1, a.2.2.1, a.2.2.2.1, a.2.2.2.2.1, a.2.2.2.2.2.1, a.2.2.2.2.2.2.1, a.2.2.2.2.2.2.2.1, PUnit.unit))))

noncomputable def lPlayL0O : Ora := loopE true lPlayL0c lPlayL0T (fun a => 400)

theorem lPlayL0_ok : OraOk (envX Tryz.prog [(23, pClock1E), (29, nOpcodeE), (30, nNextE), (36, nLinesE), (37, rClock1E), (38, rSameE), (39, pBusyE), (40, rBusyE)] [] 65535 8) (.block 0 (.loop (bodyIn Tryz.f41.body 0))) lPlayL0O :=
  loop_part (envX_ok (l := [(23, pClock1E), (29, nOpcodeE), (30, nNextE), (36, nLinesE), (37, rClock1E), (38, rSameE), (39, pBusyE), (40, rBusyE)]) ⟨pClock1_ok, nOpcode_ok, nNext_ok, nLines_ok, rClock1_ok, rSame_ok, pBusy_ok, rBusy_ok, trivial⟩ [] 65535 8) (loopsOk_bare (by kernel_rfl)) (fun a => by kernel_rfl)

noncomputable def lPlayT (s : List Int × Int) (c : TC × Int × List Int × TY × Int × Bool) (n : Int) : RT (Option (((TC × Int × List Int × TY × Int × Bool) × Bool) × List Int × Int)) :=
  let x1 : Int × Bool × Int × List Int × Int × (TC × Int × List Int × TY × Int × Bool) × (TC × Int × List Int × TY × Int × Bool) × (TC × Int × List Int × TY × Int × Bool) × PUnit := (n, false, 0, s.1, s.2, c, ((0, (0, 0, 0, 0, 0, 0, 0, (false, false, false, false, false, false, false), 0, 0), false, false, false, 0, false, false, false, false, false, false, false), 0, [], (0, 0, 0, 0), 0, false), c, ())
  let x2 : Option (Bool × Int × Bool × Int × List Int × Int × (TC × Int × List Int × TY × Int × Bool) × (TC × Int × List Int × TY × Int × Bool) × (TC × Int × List Int × TY × Int × Bool) × PUnit) := runF true lPlayL0T (fun a => 400) x1
  let x3 : Bool × Int × Bool × Int × List Int × Int × (TC × Int × List Int × TY × Int × Bool) × (TC × Int × List Int × TY × Int × Bool) × (TC × Int × List Int × TY × Int × Bool) × PUnit := getO (false, x1) x2
  let x4 : Bool × Int × List Int × Int × (TC × Int × List Int × TY × Int × Bool) × (TC × Int × List Int × TY × Int × Bool) × (TC × Int × List Int × TY × Int × Bool) × PUnit := x3.2.2
  let x5 : List Int × Int × (TC × Int × List Int × TY × Int × Bool) × (TC × Int × List Int × TY × Int × Bool) × (TC × Int × List Int × TY × Int × Bool) × PUnit := x4.2.2
  let x6 : Int × (TC × Int × List Int × TY × Int × Bool) × (TC × Int × List Int × TY × Int × Bool) × (TC × Int × List Int × TY × Int × Bool) × PUnit := x5.2
  let x7 : (TC × Int × List Int × TY × Int × Bool) × (TC × Int × List Int × TY × Int × Bool) × (TC × Int × List Int × TY × Int × Bool) × PUnit := x6.2
  let x8 : List Int × Int := (x5.1, x6.1)
  .br (okB x2)
  (.br x3.1
   (.leaf (some (((x7.2.1, x4.1), x8))))
   (.leaf (some (((x7.1, true), x8)))))
  (.leaf none)

noncomputable def lPlay (s : List Int × Int) (c : TC × Int × List Int × TY × Int × Bool) (n : Int) : ((TC × Int × List Int × TY × Int × Bool) × Bool) × List Int × Int := getO (lPlayRs.dflt, lPlayRb.dflt) (lPlayT s c n).val

noncomputable def lPlayC (s : List Int × Int) (c : TC × Int × List Int × TY × Int × Bool) (n : Int) : Bool := okB (lPlayT s c n).val

noncomputable def lPlayE : Entry := box1E lPlayRb lPlayTs lPlayRs (fun a => some (lPlayC a.1 a.2.1 a.2.2)) (fun a => lPlay a.1 a.2.1 a.2.2)

theorem lPlay_ok : EntryOk Tryz.prog 41 lPlayE :=
  box1_part (P := Tryz.prog) (n := 65535) (k := 8) (l := [(23, pClock1E), (29, nOpcodeE), (30, nNextE), (36, nLinesE), (37, rClock1E), (38, rSameE), (39, pBusyE), (40, rBusyE)]) (ol := [(0, lPlayL0O)]) ⟨pClock1_ok, nOpcode_ok, nNext_ok, nLines_ok, rClock1_ok, rSame_ok, pBusy_ok, rBusy_ok, trivial⟩ Tryz.func41 rfl (by kernel_rfl) Tryz.call41 ⟨lPlayL0_ok, trivial⟩ (rb := lPlayRb) (ts := lPlayTs) (rs := lPlayRs) (t := fun a => lPlayT a.1 a.2.1 a.2.2) (fun a => by kernel_rfl)

noncomputable def Ltstatemake_FromE : Entry := .tree (evFunc (envX Tryz.prog [] [] 7 8) Tryz.f16)

theorem Ltstatemake_From_ok : EntryOk Tryz.prog 16 Ltstatemake_FromE := inl_ok (P := Tryz.prog) (n := 7) (k := 8) (l := []) (ol := []) trivial Tryz.func16 rfl (by kernel_rfl) Tryz.call16 trivial

abbrev lPlaysTs : List Sh := [Sh.one (R.sl (R.int IntKind.i64))]

abbrev lPlaysRs : Rs := Rs.one (Sh.one R.bool)

noncomputable def lPlaysT (n : List Int) : RT (Option (Bool)) :=
  let x1 : Bool := (lPlay (nChip (n, 0)).2 (newX (nChip (n, 0)).1) (IntKind.i64.wrap (Int.tdiv (iN (List.length n)) 3))).1.2
  .br (!decide (iN (List.length n) > 300) || kKnC)
  (.br (decide (iN (List.length n) > 300))
   (.leaf (some (true)))
   (.br (nChipC (n, 0))
    (.br (lPlayC (nChip (n, 0)).2 (newX (nChip (n, 0)).1) (IntKind.i64.wrap (Int.tdiv (iN (List.length n)) 3)))
     (.br (!x1 || kKnC)
      (.leaf (some (x1 && kKn)))
      (.leaf none))
     (.leaf none))
    (.leaf none)))
  (.leaf none)

noncomputable def lPlays (n : List Int) : Bool := getO lPlaysRs.dflt (lPlaysT n).val

noncomputable def lPlaysC (n : List Int) : Bool := okB (lPlaysT n).val

noncomputable def lPlaysE : Entry := pureE lPlaysTs lPlaysRs (fun a => some (lPlaysC a)) (fun a => lPlays a)

theorem lPlays_ok : EntryOk Tryz.prog 6 lPlaysE :=
  pure_part (P := Tryz.prog) (n := 127) (k := 8) (l := [(15, kKnE), (16, Ltstatemake_FromE), (18, nChipE), (28, pNew1E), (41, lPlayE)]) (ol := []) ⟨kKn_ok, Ltstatemake_From_ok, nChip_ok, pNew1_ok, lPlay_ok, trivial⟩ Tryz.func6 rfl (by kernel_rfl) Tryz.call6 trivial (ts := lPlaysTs) (rs := lPlaysRs) (t := fun a => lPlaysT a) (fun a => by kernel_rfl)
end
end Go.Proofs.YteboknglfjadoaaGreat
