/-
  Contracts of functions; each found by the symbolic executor and checked by the kernel. Conditions: none.
-/
import Derived.Test.YteboknglfjadoaaGreatS3D
import Derived.Test.YteboknglfjadoaaGreatProg
import Derived.Test.YteboknglfjadoaaGreatCoreB
set_option linter.unusedSimpArgs false
open Go Go.S3 Go.Proofs
set_option linter.unusedVariables false
set_option maxRecDepth 100000
namespace Go.Proofs.YteboknglfjadoaaGreat
noncomputable section
noncomputable def dengine_endE : Entry := .tree (evFunc (envX Tryz.prog [(120, pNextE), (131, pIdleE), (132, pPick1E), (133, pServeE), (165, pFinE)] [] 1023 8) Tryz.f130)

theorem dengine_end_ok : EntryOk Tryz.prog 130 dengine_endE := inl_ok (P := Tryz.prog) (n := 1023) (k := 8) (l := [(120, pNextE), (131, pIdleE), (132, pPick1E), (133, pServeE), (165, pFinE)]) (ol := []) ⟨pNext_ok, pIdle_ok, pPick1_ok, pServe_ok, pFin_ok, trivial⟩ Tryz.func130 rfl (by kernel_rfl) Tryz.call130 trivial

abbrev pAdvTs : List Sh := [Sh.agg (R.pair (R.pair (R.int IntKind.i64) (R.pair (R.pair (R.int IntKind.u8) (R.pair (R.int IntKind.u8) (R.pair (R.int IntKind.u8) (R.pair (R.int IntKind.u8) (R.pair (R.int IntKind.u8) (R.pair (R.int IntKind.u8) (R.pair (R.int IntKind.u8) (R.pair (R.pair R.bool (R.pair R.bool (R.pair R.bool (R.pair R.bool (R.pair R.bool (R.pair R.bool R.bool)))))) (R.pair (R.int IntKind.u16) (R.int IntKind.u16)))))))))) (R.pair R.bool (R.pair R.bool (R.pair R.bool (R.pair (R.int IntKind.u8) (R.pair R.bool (R.pair R.bool (R.pair R.bool (R.pair R.bool (R.pair R.bool (R.pair R.bool R.bool)))))))))))) (R.pair (R.int IntKind.i64) (R.pair (R.sl (R.int IntKind.u8)) (R.pair (RY) (R.pair (R.int IntKind.i64) R.bool))))), Sh.agg (R.pair R.bool (R.pair R.bool (R.pair R.bool (R.pair R.bool (R.pair R.bool (R.pair R.bool (R.pair R.bool (R.pair R.bool R.bool)))))))), Sh.one (R.int IntKind.u8)]

abbrev pAdvRs : Rs := Rs.tup [Sh.agg (R.pair (R.pair (R.int IntKind.i64) (R.pair (R.pair (R.int IntKind.u8) (R.pair (R.int IntKind.u8) (R.pair (R.int IntKind.u8) (R.pair (R.int IntKind.u8) (R.pair (R.int IntKind.u8) (R.pair (R.int IntKind.u8) (R.pair (R.int IntKind.u8) (R.pair (R.pair R.bool (R.pair R.bool (R.pair R.bool (R.pair R.bool (R.pair R.bool (R.pair R.bool R.bool)))))) (R.pair (R.int IntKind.u16) (R.int IntKind.u16)))))))))) (R.pair R.bool (R.pair R.bool (R.pair R.bool (R.pair (R.int IntKind.u8) (R.pair R.bool (R.pair R.bool (R.pair R.bool (R.pair R.bool (R.pair R.bool (R.pair R.bool R.bool)))))))))))) (R.pair (R.int IntKind.i64) (R.pair (R.sl (R.int IntKind.u8)) (R.pair (RY) (R.pair (R.int IntKind.i64) R.bool))))), Sh.agg (R.pair R.bool (R.pair (R.pair (R.int IntKind.i64) (R.pair (R.pair (R.int IntKind.u8) (R.pair (R.int IntKind.u8) (R.pair (R.int IntKind.u8) (R.pair (R.int IntKind.u8) (R.pair (R.int IntKind.u8) (R.pair (R.int IntKind.u8) (R.pair (R.int IntKind.u8) (R.pair (R.pair R.bool (R.pair R.bool (R.pair R.bool (R.pair R.bool (R.pair R.bool (R.pair R.bool R.bool)))))) (R.pair (R.int IntKind.u16) (R.int IntKind.u16)))))))))) (R.pair R.bool (R.pair R.bool (R.pair R.bool (R.pair (R.int IntKind.u8) (R.pair R.bool (R.pair R.bool (R.pair R.bool (R.pair R.bool (R.pair R.bool (R.pair R.bool R.bool)))))))))))) (R.pair (R.sl (R.int IntKind.u8)) (R.pair (RY) (R.pair (R.int IntKind.i64) (R.pair (R.pair (R.int IntKind.u8) (R.pair (R.int IntKind.u8) (R.pair (R.int IntKind.u8) (R.pair (R.int IntKind.u8) (R.pair (R.int IntKind.u8) (R.pair (R.int IntKind.u8) (R.pair (R.int IntKind.u8) (R.pair (R.pair R.bool (R.pair R.bool (R.pair R.bool (R.pair R.bool (R.pair R.bool (R.pair R.bool R.bool)))))) (R.pair (R.int IntKind.u16) (R.int IntKind.u16)))))))))) (R.pair R.bool (R.pair R.bool (R.pair R.bool (R.pair (R.int IntKind.u8) (R.pair R.bool (R.pair R.bool (R.pair R.bool (R.pair R.bool (R.pair R.bool (R.pair R.bool R.bool))))))))))))))))]

noncomputable def pAdvT (c : TC × Int × List Int × TY × Int × Bool) (l : Bool × Bool × Bool × Bool × Bool × Bool × Bool × Bool × Bool) (d : Int) : RT (Option ((TC × Int × List Int × TY × Int × Bool) × Bool × TC × List Int × TY × TC)) :=
  let x1 : Int := bif rReads c.2.2.2.1.1 then d else c.2.2.2.1.2.2.1
  let x2 : List Int := c.2.2.1 ++ [x1]
  let x3 : TC := (0, (0, 0, 0, 0, 0, 0, 0, (false, false, false, false, false, false, false), 0, 0), false, false, false, 0, false, false, false, false, false, false, false)
  let x4 : Bool × TC × List Int × TY × TC := (false, x3, [], c.2.2.2.1, rLatch c.1 l)
  let x5 : Int := bif c.2.2.2.1.1 == 1 || c.2.2.2.1.1 == 8 then rFirst (rLatch c.1 l).1 x1 else c.2.2.2.1.2.2.2
  let x6 : Int × Int × Int × Int := (c.2.2.2.1.1, c.2.2.2.1.2.1, x1, x5)
  let x7 : TY × TC := (x6, rLatch c.1 l)
  let x8 : Bool × TC × List Int × TY × TC := (false, x3, [], x7)
  let x9 : TY × Bool := nextX (rLatch c.1 l) c.2.1 x2
  let x10 : Int × Int × Int × Int := x9.1
  let x11 : TC := finX (rLatch c.1 l) c.2.1 x2 l
  let x12 : TC × Int × List Int × TY × Int × Bool := pServe (x11, c.2.1, x2, x6, c.2.2.2.2) (rPick x11 l)
  let x13 : Int × List Int × TY × Int × Bool := x12.2
  let x14 : TY × Int × Bool := x13.2.2
  let x15 : TC × Int × List Int × TY × Int × Bool := pServe (finX (rLatch c.1 l) c.2.1 c.2.2.1 l, c.2) (rPick (finX (rLatch c.1 l) c.2.1 c.2.2.1 l) l)
  let x16 : Int × List Int × TY × Int × Bool := x15.2
  let x17 : TY × Int × Bool := x16.2.2
  let x18 : TC × Int × List Int × TY × Int × Bool := pServe (rLatch c.1 l, c.2) (rPick (rLatch c.1 l) l)
  let x19 : Int × List Int × TY × Int × Bool := x18.2
  let x20 : TY × Int × Bool := x19.2.2
  .br (Nat.ble (List.length c.2.2.1) most)
  (.br (pState c == 1 || ((bif pState c == 2 then pState c == 2 else pState c == 7) || (!pState c == 3 || Nat.ble (List.length x2) most)))
   (.br (pState c == 1)
    (.leaf (some (((rLatch c.1 l, c.2.1, c.2.2.1, c.2.2.2.1, 2, c.2.2.2.2.2), x4))))
    (.br (bif pState c == 2 then pState c == 2 else pState c == 7)
     (.leaf (some (((rLatch c.1 l, c.2.1, c.2.2.1, c.2.2.2.1, bif rAccepts c.2.2.2.1.1 && !l.1 then 7 else 3, bif rAccepts c.2.2.2.1.1 && !l.1 then c.2.2.2.2.2 else l.2.1), x4))))
     (.br (pState c == 3)
      (.br (decide (x5 > 3))
       (.leaf (some (((rLatch c.1 l, c.2.1, x2, x6, 4, c.2.2.2.2.2), x8))))
       (.br x9.2
        (.leaf (some (((rLatch c.1 l, c.2.1, x2, x10, pIdle (rLatch c.1 l, c.2.1, x2, x10, c.2.2.2.2) c.2.2.2.2.2, false), x8))))
        (.leaf (some (((x12.1, x13.1, [], x14.1, pIdle x12 x14.2.2, false), true, x11, x2, x7))))))
      (.br (bif pState c == 4 then pState c == 4 else bif pState c == 5 then pState c == 5 else pState c == 6)
       (.br (decide (c.2.2.2.1.2.2.2 > pState c) && pState c != 6)
        (.leaf (some (((rLatch c.1 l, c.2.1, c.2.2.1, c.2.2.2.1, IntKind.i64.wrap (pState c + 1), c.2.2.2.2.2), x4))))
        (.br (nextX (rLatch c.1 l) c.2.1 c.2.2.1).2
         (.leaf (some (((rLatch c.1 l, c.2.1, c.2.2.1, (nextX (rLatch c.1 l) c.2.1 c.2.2.1).1, pIdle (rLatch c.1 l, c.2.1, c.2.2.1, (nextX (rLatch c.1 l) c.2.1 c.2.2.1).1, c.2.2.2.2) c.2.2.2.2.2, false), x4))))
         (.leaf (some (((x15.1, x16.1, [], x17.1, pIdle x15 x17.2.2, false), true, finX (rLatch c.1 l) c.2.1 c.2.2.1 l, c.2.2.1, c.2.2.2.1, rLatch c.1 l))))))
       (.br (pState c == 8)
        (.leaf (some (((rLatch c.1 l, c.2.1, c.2.2.1, c.2.2.2.1, pIdle (rLatch c.1 l, c.2) l.2.1, c.2.2.2.2.2), x4))))
        (.br (pState c == 9)
         (.br (rPick (rLatch c.1 l) l != 0)
          (.leaf (some (((x18.1, x19.1, [], x20.1, pWaiting (rPick (rLatch c.1 l) l) l.2.1, x20.2.2), x4))))
          (.leaf (some (((rLatch c.1 l, c.2.1, c.2.2.1, c.2.2.2.1, pWaiting (rPick (rLatch c.1 l) l) l.2.1, c.2.2.2.2.2), x4)))))
         (.leaf (some (((rLatch c.1 l, c.2), x4))))))))))
   (.leaf none))
  (.leaf none)

noncomputable def pAdv (c : TC × Int × List Int × TY × Int × Bool) (l : Bool × Bool × Bool × Bool × Bool × Bool × Bool × Bool × Bool) (d : Int) : (TC × Int × List Int × TY × Int × Bool) × Bool × TC × List Int × TY × TC := getO pAdvRs.dflt (pAdvT c l d).val

noncomputable def pAdvC (c : TC × Int × List Int × TY × Int × Bool) (l : Bool × Bool × Bool × Bool × Bool × Bool × Bool × Bool × Bool) (d : Int) : Bool := okB (pAdvT c l d).val

noncomputable def pAdvE : Entry := pureE pAdvTs pAdvRs (fun a => some (pAdvC a.1 a.2.1 a.2.2)) (fun a => pAdv a.1 a.2.1 a.2.2)

theorem pAdv_ok : EntryOk Tryz.prog 66 pAdvE :=
  pure_part (P := Tryz.prog) (n := 2679225218618052313454186380042176511) (k := 8) (l := [(62, pStateE), (97, pAccepts1E), (124, pReads1E), (127, cloneBE), (128, pLatch1E), (129, pFirst1E), (130, dengine_endE), (131, pIdleE), (132, pPick1E), (133, pServeE), (134, pWaitingE)]) (ol := []) ⟨pState_ok, pAccepts1_ok, pReads1_ok, cloneB_ok, pLatch1_ok, pFirst1_ok, dengine_end_ok, pIdle_ok, pPick1_ok, pServe_ok, pWaiting_ok, trivial⟩ Tryz.func66 rfl (by kernel_rfl) Tryz.call66 trivial (ts := pAdvTs) (rs := pAdvRs) (t := fun a => pAdvT a.1 a.2.1 a.2.2) (fun a => by kernel_rfl)

abbrev pClockTs : List Sh := [Sh.agg (R.pair (R.pair (R.int IntKind.i64) (R.pair (R.pair (R.int IntKind.u8) (R.pair (R.int IntKind.u8) (R.pair (R.int IntKind.u8) (R.pair (R.int IntKind.u8) (R.pair (R.int IntKind.u8) (R.pair (R.int IntKind.u8) (R.pair (R.int IntKind.u8) (R.pair (R.pair R.bool (R.pair R.bool (R.pair R.bool (R.pair R.bool (R.pair R.bool (R.pair R.bool R.bool)))))) (R.pair (R.int IntKind.u16) (R.int IntKind.u16)))))))))) (R.pair R.bool (R.pair R.bool (R.pair R.bool (R.pair (R.int IntKind.u8) (R.pair R.bool (R.pair R.bool (R.pair R.bool (R.pair R.bool (R.pair R.bool (R.pair R.bool R.bool)))))))))))) (R.pair (R.int IntKind.i64) (R.pair (R.sl (R.int IntKind.u8)) (R.pair (RY) (R.pair (R.int IntKind.i64) R.bool))))), Sh.agg (R.pair R.bool (R.pair R.bool (R.pair R.bool (R.pair R.bool (R.pair R.bool (R.pair R.bool (R.pair R.bool (R.pair R.bool R.bool)))))))), Sh.one (R.int IntKind.u8)]

abbrev pClockRs : Rs := Rs.tup [Sh.agg (R.pair (R.pair (R.int IntKind.i64) (R.pair (R.pair (R.int IntKind.u8) (R.pair (R.int IntKind.u8) (R.pair (R.int IntKind.u8) (R.pair (R.int IntKind.u8) (R.pair (R.int IntKind.u8) (R.pair (R.int IntKind.u8) (R.pair (R.int IntKind.u8) (R.pair (R.pair R.bool (R.pair R.bool (R.pair R.bool (R.pair R.bool (R.pair R.bool (R.pair R.bool R.bool)))))) (R.pair (R.int IntKind.u16) (R.int IntKind.u16)))))))))) (R.pair R.bool (R.pair R.bool (R.pair R.bool (R.pair (R.int IntKind.u8) (R.pair R.bool (R.pair R.bool (R.pair R.bool (R.pair R.bool (R.pair R.bool (R.pair R.bool R.bool)))))))))))) (R.pair (R.int IntKind.i64) (R.pair (R.sl (R.int IntKind.u8)) (R.pair (RY) (R.pair (R.int IntKind.i64) R.bool))))), Sh.agg (R.pair (R.int IntKind.i64) (R.pair (R.int IntKind.u16) (R.pair (R.int IntKind.u8) (R.pair R.bool (R.pair R.bool (R.pair R.bool (R.pair R.bool (R.pair R.bool (R.pair R.bool (R.pair R.bool (R.pair R.bool (R.pair R.bool (R.pair R.bool (R.pair R.bool (R.pair R.bool (R.pair R.bool R.bool))))))))))))))))]

noncomputable def pClockT (c : TC × Int × List Int × TY × Int × Bool) (l : Bool × Bool × Bool × Bool × Bool × Bool × Bool × Bool × Bool) (d : Int) : RT (Option ((TC × Int × List Int × TY × Int × Bool) × Int × Int × Int × Bool × Bool × Bool × Bool × Bool × Bool × Bool × Bool × Bool × Bool × Bool × Bool × Bool × Bool)) :=
  let x1 : Int × TF × Int × Int := (pBegin (rReset c.1) 0).1.2.1.2.2.2.2.2.2
  let x2 : TF × Int × Int := x1.2
  let x3 : TY × Int × Int × Bool × Bool := (c.2.2.2.1, d, c.1.2.1.2.2.2.2.2.2.2.2.2, c.1.2.2.1, c.1.2.2.2.2.2.2.2.2.2.2.2.2)
  .br l.2.2.1
  (.leaf (some (((((pBegin (rReset c.1) 0).1.1, ((pBegin (rReset c.1) 0).1.2.1.1, (pBegin (rReset c.1) 0).1.2.1.2.1, (pBegin (rReset c.1) 0).1.2.1.2.2.1, (pBegin (rReset c.1) 0).1.2.1.2.2.2.1, (pBegin (rReset c.1) 0).1.2.1.2.2.2.2.1, (pBegin (rReset c.1) 0).1.2.1.2.2.2.2.2.1, x1.1, x2.1, x2.2.1, 0), false, false, false, (pBegin (rReset c.1) 0).1.2.2.2.2.2.1, false, false, false, false, false, false, false), 0, [], (1, 0, 0, 4), 1, false), pPinO c.1.1 (10, x3)))))
  (.br (pAdvC c l d)
   (.leaf (some (((pAdv c l d).1, pPinO c.1.1 (pState c, x3)))))
   (.leaf none))

noncomputable def pClock (c : TC × Int × List Int × TY × Int × Bool) (l : Bool × Bool × Bool × Bool × Bool × Bool × Bool × Bool × Bool) (d : Int) : (TC × Int × List Int × TY × Int × Bool) × Int × Int × Int × Bool × Bool × Bool × Bool × Bool × Bool × Bool × Bool × Bool × Bool × Bool × Bool × Bool × Bool := getO pClockRs.dflt (pClockT c l d).val

noncomputable def pClockC (c : TC × Int × List Int × TY × Int × Bool) (l : Bool × Bool × Bool × Bool × Bool × Bool × Bool × Bool × Bool) (d : Int) : Bool := okB (pClockT c l d).val

noncomputable def pClockE : Entry := pureE pClockTs pClockRs (fun a => some (pClockC a.1 a.2.1 a.2.2)) (fun a => pClock a.1 a.2.1 a.2.2)

theorem pClock_ok : EntryOk Tryz.prog 23 pClockE :=
  pure_part (P := Tryz.prog) (n := 2047) (k := 8) (l := [(62, pStateE), (63, pBeginE), (64, pReset1E), (65, pPinOE), (66, pAdvE)]) (ol := []) ⟨pState_ok, pBegin_ok, pReset1_ok, pPinO_ok, pAdv_ok, trivial⟩ Tryz.func23 rfl (by kernel_rfl) Tryz.call23 trivial (ts := pClockTs) (rs := pClockRs) (t := fun a => pClockT a.1 a.2.1 a.2.2) (fun a => by kernel_rfl)

abbrev rClockTs : List Sh := [Sh.agg (R.pair (R.pair (R.int IntKind.i64) (R.pair (R.pair (R.int IntKind.u8) (R.pair (R.int IntKind.u8) (R.pair (R.int IntKind.u8) (R.pair (R.int IntKind.u8) (R.pair (R.int IntKind.u8) (R.pair (R.int IntKind.u8) (R.pair (R.int IntKind.u8) (R.pair (R.pair R.bool (R.pair R.bool (R.pair R.bool (R.pair R.bool (R.pair R.bool (R.pair R.bool R.bool)))))) (R.pair (R.int IntKind.u16) (R.int IntKind.u16)))))))))) (R.pair R.bool (R.pair R.bool (R.pair R.bool (R.pair (R.int IntKind.u8) (R.pair R.bool (R.pair R.bool (R.pair R.bool (R.pair R.bool (R.pair R.bool (R.pair R.bool R.bool)))))))))))) (R.pair (R.int IntKind.i64) (R.pair (R.sl (R.int IntKind.u8)) (R.pair (RY) (R.pair (R.int IntKind.i64) R.bool))))), Sh.agg (R.pair R.bool (R.pair R.bool (R.pair R.bool (R.pair R.bool (R.pair R.bool (R.pair R.bool (R.pair R.bool (R.pair R.bool R.bool)))))))), Sh.one (R.int IntKind.u8)]

abbrev rClockRs : Rs := Rs.tup [Sh.agg (R.pair (R.pair (R.int IntKind.i64) (R.pair (R.pair (R.int IntKind.u8) (R.pair (R.int IntKind.u8) (R.pair (R.int IntKind.u8) (R.pair (R.int IntKind.u8) (R.pair (R.int IntKind.u8) (R.pair (R.int IntKind.u8) (R.pair (R.int IntKind.u8) (R.pair (R.pair R.bool (R.pair R.bool (R.pair R.bool (R.pair R.bool (R.pair R.bool (R.pair R.bool R.bool)))))) (R.pair (R.int IntKind.u16) (R.int IntKind.u16)))))))))) (R.pair R.bool (R.pair R.bool (R.pair R.bool (R.pair (R.int IntKind.u8) (R.pair R.bool (R.pair R.bool (R.pair R.bool (R.pair R.bool (R.pair R.bool (R.pair R.bool R.bool)))))))))))) (R.pair (R.int IntKind.i64) (R.pair (R.sl (R.int IntKind.u8)) (R.pair (RY) (R.pair (R.int IntKind.i64) R.bool))))), Sh.agg (R.pair (R.int IntKind.i64) (R.pair (R.int IntKind.u16) (R.pair (R.int IntKind.u8) (R.pair R.bool (R.pair R.bool (R.pair R.bool (R.pair R.bool (R.pair R.bool (R.pair R.bool (R.pair R.bool (R.pair R.bool (R.pair R.bool (R.pair R.bool (R.pair R.bool (R.pair R.bool (R.pair R.bool R.bool))))))))))))))))]

noncomputable def rClockT (c : TC × Int × List Int × TY × Int × Bool) (l : Bool × Bool × Bool × Bool × Bool × Bool × Bool × Bool × Bool) (d : Int) : RT (Option ((TC × Int × List Int × TY × Int × Bool) × Int × Int × Int × Bool × Bool × Bool × Bool × Bool × Bool × Bool × Bool × Bool × Bool × Bool × Bool × Bool × Bool)) :=
  let x1 : Int × Int × Int × Int := (bif rState c == 9 then 0 else c.2.2.2.1.1, bif rState c == 9 then c.1.2.1.2.2.2.2.2.2.2.2.2 else c.2.2.2.1.2.1, bif rState c == 9 then 0 else c.2.2.2.1.2.2.1, bif rState c == 9 then 0 else c.2.2.2.1.2.2.2)
  let x2 : Bool := c.1.2.2.2.2.2.2.2.2.2.2.2.2
  let x3 : Bool × Bool × Bool × Bool × Bool × Bool × Bool × Bool × Bool × Bool × Bool := (rPins c.1.1 10 x1 0 c.1.2.2.1 x2).2.2.2.2.2.2
  let x4 : Bool × Bool × Bool × Bool := x3.2.2.2.2.2.2.2
  let x5 : Int × Int × Int × Bool × Bool × Bool × Bool × Bool × Bool × Bool × Bool × Bool × Bool × Bool × Bool × Bool × Bool := rPins c.1.1 (rState c) x1 d c.1.2.2.1 x2
  let x6 : TC × Int × List Int × TY × Int × Bool := (rLatch c.1 l, c.2.1, [] ++ c.2.2.1, c.2.2.2)
  let x7 : TC × Int × List Int × TY × Int × Bool := rServe x6 (rPick (rLatch c.1 l) l)
  let x8 : Int × List Int × TY × Int × Bool := x7.2
  let x9 : TY × Int × Bool := x8.2.2
  let x10 : Int := bif l.2.1 then 8 else bif rPick (rLatch c.1 l) l != 0 then 1 else 9
  let x11 : TY × List Int := rRead x6 (rState c) d
  let x12 : Int × Int × Int × Int := x11.1
  let x13 : Bool := rEnds (rState c) x12
  let x14 : List Int := x11.2
  let x15 : TC × Int × List Int × TY × Int × Bool := rEnd (rLatch c.1 l, c.2.1, x14, x12, c.2.2.2.2) l
  let x16 : TC := x15.1
  let x17 : TR × Bool × Bool × Bool × Int × Bool × Bool × Bool × Bool × Bool × Bool × Bool := x16.2
  let x18 : TR := x17.1
  let x19 : Int × Int × Int × Int × Int × Int × TF × Int × Int := x18.2
  let x20 : Int × Int × Int × Int × Int × TF × Int × Int := x19.2
  let x21 : Int × Int × Int × Int × TF × Int × Int := x20.2
  let x22 : Int × Int × Int × TF × Int × Int := x21.2
  let x23 : Int × Int × TF × Int × Int := x22.2
  let x24 : Int × TF × Int × Int := x23.2
  let x25 : TF × Int × Int := x24.2
  let x26 : TF := x25.1
  let x27 : TF := (rLatch c.1 l).2.1.2.2.2.2.2.2.2.1
  let x28 : Bool × Bool × Bool × Bool × Bool × Bool := x26.2
  let x29 : Bool × Bool × Bool × Bool × Bool × Bool := x27.2
  let x30 : Bool × Bool × Bool × Bool × Bool := x28.2
  let x31 : Bool × Bool × Bool × Bool × Bool := x29.2
  let x32 : Bool × Bool × Bool × Bool := x30.2
  let x33 : Bool × Bool × Bool × Bool := x31.2
  let x34 : Bool × Bool × Bool := x32.2
  let x35 : Bool × Bool × Bool := x33.2
  let x36 : Bool × Bool := x34.2
  let x37 : Bool × Bool := x35.2
  let x38 : Int × Int := x25.2
  let x39 : Int × Int := (rLatch c.1 l).2.1.2.2.2.2.2.2.2.2
  let x40 : Bool × Bool × Bool × Int × Bool × Bool × Bool × Bool × Bool × Bool × Bool := x17.2
  let x41 : Bool × Bool × Int × Bool × Bool × Bool × Bool × Bool × Bool × Bool := x40.2
  let x42 : Bool × Int × Bool × Bool × Bool × Bool × Bool × Bool × Bool := x41.2
  let x43 : Int × Bool × Bool × Bool × Bool × Bool × Bool × Bool := x42.2
  let x44 : TF := x43.2
  let x45 : Bool × Bool × Bool × Bool × Bool × Bool := x44.2
  let x46 : Bool × Bool × Bool × Bool × Bool := x45.2
  let x47 : Bool × Bool × Bool × Bool := x46.2
  let x48 : Bool × Bool × Bool := x47.2
  let x49 : Bool × Bool × Bool := (rLatch c.1 l).2.2.2.2.2.2.2.2.2.2
  let x50 : Bool × Bool := x48.2
  let x51 : Bool × Bool := x49.2
  let x52 : Int × List Int × TY × Int × Bool := x15.2
  let x53 : List Int × TY × Int × Bool := x52.2
  let x54 : TY × Int × Bool := x53.2
  let x55 : Int × Int × Int × Int := x54.1
  let x56 : Int × Int × Int := x55.2
  let x57 : Int × Int × Int := x12.2
  let x58 : Int × Int := x56.2
  let x59 : Int × Int := x57.2
  let x60 : Int × Bool := x54.2
  .br l.2.2.1
  (.leaf (some (((((rReset c.1).1, ((rReset c.1).2.1.1, (rReset c.1).2.1.2.1, (rReset c.1).2.1.2.2.1, (rReset c.1).2.1.2.2.2.1, (rReset c.1).2.1.2.2.2.2.1, (rReset c.1).2.1.2.2.2.2.2.1, (rReset c.1).2.1.2.2.2.2.2.2.1, (rReset c.1).2.1.2.2.2.2.2.2.2.1, (rReset c.1).2.1.2.2.2.2.2.2.2.2.1, 0), false, false, false, (rReset c.1).2.2.2.2.2.1, false, false, false, false, false, false, false), 0, [], (1, 0, 0, 4), 1, false), 10, 0, 0, false, false, false, x3.1, false, false, false, false, false, false, x4.1, false, false, x4.2.2.2))))
  (.br (Nat.ble (List.length ([] ++ c.2.2.1)) most)
   (.br (rState c == 1)
    (.leaf (some (((rLatch c.1 l, c.2.1, [] ++ c.2.2.1, c.2.2.2.1, 2, c.2.2.2.2.2), x5))))
    (.br (bif rState c == 2 then rState c == 2 else rState c == 7)
     (.leaf (some (((rLatch c.1 l, c.2.1, [] ++ c.2.2.1, c.2.2.2.1, bif l.1 || !rAccepts c.2.2.2.1.1 then 3 else 7, bif l.1 || !rAccepts c.2.2.2.1.1 then l.2.1 else c.2.2.2.2.2), x5))))
     (.br (rState c == 8)
      (.leaf (some (((rLatch c.1 l, c.2.1, bif l.2.1 then [] ++ c.2.2.1 else [] ++ c.2.2.1, c.2.2.2.1, bif l.2.1 then 8 else bif rResting x6 then 9 else 1, c.2.2.2.2.2), x5))))
      (.br (rState c == 9)
       (.br (rPick (rLatch c.1 l) l != 0)
        (.leaf (some (((x7.1, x8.1, [], x9.1, x10, x9.2.2), x5))))
        (.leaf (some (((rLatch c.1 l, c.2.1, [] ++ c.2.2.1, c.2.2.2.1, x10, c.2.2.2.2.2), x5)))))
       (.br (rReadC x6 (rState c) d)
        (.leaf (some ((((bif x13 then x16.1 else (rLatch c.1 l).1, (bif x13 then x18.1 else (rLatch c.1 l).2.1.1, bif x13 then x19.1 else (rLatch c.1 l).2.1.2.1, bif x13 then x20.1 else (rLatch c.1 l).2.1.2.2.1, bif x13 then x21.1 else (rLatch c.1 l).2.1.2.2.2.1, bif x13 then x22.1 else (rLatch c.1 l).2.1.2.2.2.2.1, bif x13 then x23.1 else (rLatch c.1 l).2.1.2.2.2.2.2.1, bif x13 then x24.1 else (rLatch c.1 l).2.1.2.2.2.2.2.2.1, (bif x13 then x26.1 else x27.1, bif x13 then x28.1 else x29.1, bif x13 then x30.1 else x31.1, bif x13 then x32.1 else x33.1, bif x13 then x34.1 else x35.1, bif x13 then x36.1 else x37.1, bif x13 then x36.2 else x37.2), bif x13 then x38.1 else x39.1, bif x13 then x38.2 else x39.2), bif x13 then x40.1 else (rLatch c.1 l).2.2.1, bif x13 then x41.1 else (rLatch c.1 l).2.2.2.1, bif x13 then x42.1 else (rLatch c.1 l).2.2.2.2.1, bif x13 then x43.1 else (rLatch c.1 l).2.2.2.2.2.1, bif x13 then x44.1 else (rLatch c.1 l).2.2.2.2.2.2.1, bif x13 then x45.1 else (rLatch c.1 l).2.2.2.2.2.2.2.1, bif x13 then x46.1 else (rLatch c.1 l).2.2.2.2.2.2.2.2.1, bif x13 then x47.1 else (rLatch c.1 l).2.2.2.2.2.2.2.2.2.1, bif x13 then x48.1 else x49.1, bif x13 then x50.1 else x51.1, bif x13 then x50.2 else x51.2), bif x13 then x52.1 else c.2.1, bif x13 then x53.1 else x14, (bif x13 then x55.1 else x12.1, bif x13 then x56.1 else x57.1, bif x13 then x58.1 else x59.1, bif x13 then x58.2 else x59.2), bif x13 then x60.1 else IntKind.i64.wrap (rState c + 1), bif x13 then x60.2 else c.2.2.2.2.2), x5))))
        (.leaf none))))))
   (.leaf none))

noncomputable def rClock (c : TC × Int × List Int × TY × Int × Bool) (l : Bool × Bool × Bool × Bool × Bool × Bool × Bool × Bool × Bool) (d : Int) : (TC × Int × List Int × TY × Int × Bool) × Int × Int × Int × Bool × Bool × Bool × Bool × Bool × Bool × Bool × Bool × Bool × Bool × Bool × Bool × Bool × Bool := getO rClockRs.dflt (rClockT c l d).val

noncomputable def rClockC (c : TC × Int × List Int × TY × Int × Bool) (l : Bool × Bool × Bool × Bool × Bool × Bool × Bool × Bool × Bool) (d : Int) : Bool := okB (rClockT c l d).val

noncomputable def rClockE : Entry := pureE rClockTs rClockRs (fun a => some (rClockC a.1 a.2.1 a.2.2)) (fun a => rClock a.1 a.2.1 a.2.2)

theorem rClock_ok : EntryOk Tryz.prog 37 rClockE :=
  pure_part (P := Tryz.prog) (n := 740465775588642560936085758595903342518271) (k := 8) (l := [(17, rNewE), (31, rAcceptsE), (55, rResetE), (56, rBeginE), (88, rStateE), (89, rPinsE), (90, rLatchE), (91, rRestingE), (92, rPickE), (93, rServeE), (94, rReadE), (95, rEndsE), (96, rEndE)]) (ol := []) ⟨rNew_ok, rAccepts_ok, rReset_ok, rBegin_ok, rState_ok, rPins_ok, rLatch_ok, rResting_ok, rPick_ok, rServe_ok, rRead_ok, rEnds_ok, rEnd_ok, trivial⟩ Tryz.func37 rfl (by kernel_rfl) Tryz.call37 trivial (ts := rClockTs) (rs := rClockRs) (t := fun a => rClockT a.1 a.2.1 a.2.2) (fun a => by kernel_rfl)
end
end Go.Proofs.YteboknglfjadoaaGreat
