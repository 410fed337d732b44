/-
  Contracts of functions; each found by the symbolic executor and checked by the kernel. Conditions: none.
-/
import Derived.Test.YteboknglfjadoaaGreatS3D
import Derived.Test.YteboknglfjadoaaGreatProg
import Derived.Test.YteboknglfjadoaaGreatCoreEq
set_option linter.unusedSimpArgs false
open Go Go.S3 Go.Proofs
set_option linter.unusedVariables false
set_option maxRecDepth 100000
namespace Go.Proofs.YteboknglfjadoaaGreat
noncomputable section
noncomputable def dapinout_inCycleE : Entry := .tree (evFunc (envX Tryz.prog [] [] 7 8) Tryz.f121)

theorem dapinout_inCycle_ok : EntryOk Tryz.prog 121 dapinout_inCycleE := inl_ok (P := Tryz.prog) (n := 7) (k := 8) (l := []) (ol := []) trivial Tryz.func121 rfl (by kernel_rfl) Tryz.call121 trivial

noncomputable def dapinout_onBusE : Entry := .tree (evFunc (envX Tryz.prog [] [] 7 8) Tryz.f122)

theorem dapinout_onBus_ok : EntryOk Tryz.prog 122 dapinout_onBusE := inl_ok (P := Tryz.prog) (n := 7) (k := 8) (l := []) (ol := []) trivial Tryz.func122 rfl (by kernel_rfl) Tryz.call122 trivial

noncomputable def dapinout_laterE : Entry := .tree (evFunc (envX Tryz.prog [(121, dapinout_inCycleE), (122, dapinout_onBusE), (123, pWrites1E), (124, pReads1E), (176, pLevels1E)] [] 63 8) Tryz.f125)

theorem dapinout_later_ok : EntryOk Tryz.prog 125 dapinout_laterE := inl_ok (P := Tryz.prog) (n := 63) (k := 8) (l := [(121, dapinout_inCycleE), (122, dapinout_onBusE), (123, pWrites1E), (124, pReads1E), (176, pLevels1E)]) (ol := []) ⟨dapinout_inCycle_ok, dapinout_onBus_ok, pWrites1_ok, pReads1_ok, pLevels1_ok, trivial⟩ Tryz.func125 rfl (by kernel_rfl) Tryz.call125 trivial

noncomputable def dapinout_earlierE : Entry := .tree (evFunc (envX Tryz.prog [(122, dapinout_onBusE), (123, pWrites1E), (124, pReads1E), (177, pStatus1E)] [] 63 8) Tryz.f126)

theorem dapinout_earlier_ok : EntryOk Tryz.prog 126 dapinout_earlierE := inl_ok (P := Tryz.prog) (n := 63) (k := 8) (l := [(122, dapinout_onBusE), (123, pWrites1E), (124, pReads1E), (177, pStatus1E)]) (ol := []) ⟨dapinout_onBus_ok, pWrites1_ok, pReads1_ok, pStatus1_ok, trivial⟩ Tryz.func126 rfl (by kernel_rfl) Tryz.call126 trivial

abbrev pPinOTs : List Sh := [Sh.one (R.int IntKind.i64), Sh.agg (R.pair (R.int IntKind.i64) (R.pair (RY) (R.pair (R.int IntKind.u8) (R.pair (R.int IntKind.u16) (R.pair R.bool R.bool)))))]

abbrev pPinORs : Rs := Rs.one (Sh.agg (R.pair (R.int IntKind.i64) (R.pair (R.int IntKind.u16) (R.pair (R.int IntKind.u8) (R.pair R.bool (R.pair R.bool (R.pair R.bool (R.pair R.bool (R.pair R.bool (R.pair R.bool (R.pair R.bool (R.pair R.bool (R.pair R.bool (R.pair R.bool (R.pair R.bool (R.pair R.bool (R.pair R.bool R.bool)))))))))))))))))

noncomputable def pPinOT (chip : Int) (s : Int × TY × Int × Int × Bool × Bool) : RT (Int × Int × Int × Bool × Bool × Bool × Bool × Bool × Bool × Bool × Bool × Bool × Bool × Bool × Bool × Bool × Bool) :=
  let x1 : Int := bif decide (s.1 ≥ 1) && decide (s.1 ≤ 7) then s.2.1.2.1 else 0
  let x2 : Bool := s.1 == 2 || (s.1 == 7 || s.1 == 3)
  let x3 : Bool := x2 && rWrites s.2.1.1
  let x4 : Int := bif s.1 == 3 && rReads s.2.1.1 then s.2.2.1 else bif x3 then s.2.1.2.2.1 else 0
  let x5 : Bool := s.1 == 1 && (s.2.1.1 != 11 && s.2.1.1 != 12)
  .br (chip == 2)
  (.leaf ((s.1, x1, bif s.1 == 1 then IntKind.u8.wrap s.2.1.2.1 else x4, false, false, false, false, s.1 == 1, decide (s.1 ≥ 1) && decide (s.1 ≤ 7) && (rLevels s.2.1.1).1, decide (s.1 ≥ 1) && decide (s.1 ≤ 7) && (rLevels s.2.1.1).2.1, decide (s.1 ≥ 1) && decide (s.1 ≤ 7) && (rLevels s.2.1.1).2.2, x2 && (rReads s.2.1.1 && !(s.2.1.1 == 8 || s.2.1.1 == 9)), x2 && (s.2.1.1 == 8 || s.2.1.1 == 9), s.2.2.2.2.2, x3, s.1 == 8, s.1 == 8 || (s.1 == 9 || s.1 == 10))))
  (.leaf ((s.1, bif s.1 == 9 then s.2.2.2.1 else x1, bif x5 then rStatus s.2.1.1 else x4, x5, x2 && rReads s.2.1.1, s.1 == 7 || s.1 == 9, s.2.2.2.2.1, false, false, false, false, false, false, false, bif s.1 == 7 then rWrites s.2.1.1 else s.1 == 3 && rWrites s.2.1.1, s.1 == 8, s.1 == 8)))

noncomputable def pPinO (chip : Int) (s : Int × TY × Int × Int × Bool × Bool) : Int × Int × Int × Bool × Bool × Bool × Bool × Bool × Bool × Bool × Bool × Bool × Bool × Bool × Bool × Bool × Bool := (pPinOT chip s).val

noncomputable def pPinOE : Entry := pureE pPinOTs pPinORs (fun _ => none) (fun a => pPinO a.1 a.2)

theorem pPinO_ok : EntryOk Tryz.prog 65 pPinOE :=
  pure_tot (P := Tryz.prog) (n := 63) (k := 8) (l := [(121, dapinout_inCycleE), (122, dapinout_onBusE), (123, pWrites1E), (124, pReads1E), (125, dapinout_laterE), (126, dapinout_earlierE)]) (ol := []) ⟨dapinout_inCycle_ok, dapinout_onBus_ok, pWrites1_ok, pReads1_ok, dapinout_later_ok, dapinout_earlier_ok, trivial⟩ Tryz.func65 rfl (by kernel_rfl) Tryz.call65 trivial (ts := pPinOTs) (rs := pPinORs) (t := fun a => pPinOT a.1 a.2) (fun a => by kernel_rfl)

abbrev rPinsTs : List Sh := [Sh.one (R.int IntKind.i64), Sh.one (R.int IntKind.i64), Sh.agg (RY), Sh.one (R.int IntKind.u8), Sh.one R.bool, Sh.one R.bool]

abbrev rPinsRs : Rs := Rs.one (Sh.agg (R.pair (R.int IntKind.i64) (R.pair (R.int IntKind.u16) (R.pair (R.int IntKind.u8) (R.pair R.bool (R.pair R.bool (R.pair R.bool (R.pair R.bool (R.pair R.bool (R.pair R.bool (R.pair R.bool (R.pair R.bool (R.pair R.bool (R.pair R.bool (R.pair R.bool (R.pair R.bool (R.pair R.bool R.bool)))))))))))))))))

noncomputable def rPinsT (chip : Int) (t : Int) (x : Int × Int × Int × Int) (d : Int) (i : Bool) (o : Bool) : RT (Int × Int × Int × Bool × Bool × Bool × Bool × Bool × Bool × Bool × Bool × Bool × Bool × Bool × Bool × Bool × Bool) :=
  let x1 : Bool × Bool × Bool × Bool × Bool × Bool × Bool × Bool × Bool × Bool × Bool := (!rOn chip && bif rOn chip then i else i, false, false, false, false, false, false, bif !rOn chip then rOn chip && o else rOn chip && o, false, false, rOn chip)
  let x2 : Bool := (t == 2 || (t == 7 || t == 3)) && rWrites x.1
  let x3 : Int := bif t == 3 && rReads x.1 then d else bif x2 then x.2.2.1 else 0
  .br (t == 8)
  (.leaf ((t, 0, 0, false, false, false, !rOn chip && bif rOn chip then i else i, false, false, false, false, false, false, bif !rOn chip then rOn chip && o else rOn chip && o, false, true, true)))
  (.br (t == 9)
   (.leaf ((t, bif !rOn chip then x.2.1 else 0, 0, false, false, !rOn chip, x1)))
   (.br (t == 10)
    (.leaf ((t, 0, 0, false, false, false, x1)))
    (.br (rOn chip)
     (.leaf ((t, x.2.1, bif t == 1 then IntKind.u8.wrap x.2.1 else x3, false, false, false, !rOn chip && bif rOn chip then i else i, t == 1, (rLevels x.1).1, (rLevels x.1).2.1, (rLevels x.1).2.2, (t == 2 || (t == 7 || t == 3)) && (rReads x.1 && !(x.1 == 8 || x.1 == 9)), (t == 2 || (t == 7 || t == 3)) && (x.1 == 8 || x.1 == 9), bif !rOn chip then rOn chip && o else rOn chip && o, x2, false, false)))
     (.leaf ((t, x.2.1, bif t == 1 && (x.1 != 11 && x.1 != 12) then rStatus x.1 else x3, t == 1 && (x.1 != 11 && x.1 != 12), (t == 2 || (t == 7 || t == 3)) && rReads x.1, t == 7, !rOn chip && bif rOn chip then i else i, false, false, false, false, false, false, bif !rOn chip then rOn chip && o else rOn chip && o, rWrites x.1 && (t == 7 || t == 3), false, false))))))

noncomputable def rPins (chip : Int) (t : Int) (x : Int × Int × Int × Int) (d : Int) (i : Bool) (o : Bool) : Int × Int × Int × Bool × Bool × Bool × Bool × Bool × Bool × Bool × Bool × Bool × Bool × Bool × Bool × Bool × Bool := (rPinsT chip t x d i o).val

noncomputable def rPinsE : Entry := pureE rPinsTs rPinsRs (fun _ => none) (fun a => rPins a.1 a.2.1 a.2.2.1 a.2.2.2.1 a.2.2.2.2.1 a.2.2.2.2.2)

theorem rPins_ok : EntryOk Tryz.prog 89 rPinsE :=
  pure_tot (P := Tryz.prog) (n := 302250189878107155464191) (k := 8) (l := [(22, rReadsE), (68, rOnE), (106, rWritesE), (159, rLevelsE), (160, rStatusE)]) (ol := []) ⟨rReads_ok, rOn_ok, rWrites_ok, rLevels_ok, rStatus_ok, trivial⟩ Tryz.func89 rfl (by kernel_rfl) Tryz.call89 trivial (ts := rPinsTs) (rs := rPinsRs) (t := fun a => rPinsT a.1 a.2.1 a.2.2.1 a.2.2.2.1 a.2.2.2.2.1 a.2.2.2.2.2) (fun a => by kernel_rfl)

abbrev pBusyTs : List Sh := [Sh.agg (R.pair (R.pair (R.int IntKind.i64) (R.pair (R.pair (R.int IntKind.u8) (R.pair (R.int IntKind.u8) (R.pair (R.int IntKind.u8) (R.pair (R.int IntKind.u8) (R.pair (R.int IntKind.u8) (R.pair (R.int IntKind.u8) (R.pair (R.int IntKind.u8) (R.pair (R.pair R.bool (R.pair R.bool (R.pair R.bool (R.pair R.bool (R.pair R.bool (R.pair R.bool R.bool)))))) (R.pair (R.int IntKind.u16) (R.int IntKind.u16)))))))))) (R.pair R.bool (R.pair R.bool (R.pair R.bool (R.pair (R.int IntKind.u8) (R.pair R.bool (R.pair R.bool (R.pair R.bool (R.pair R.bool (R.pair R.bool (R.pair R.bool R.bool)))))))))))) (R.pair (R.int IntKind.i64) (R.pair (R.sl (R.int IntKind.u8)) (R.pair (RY) (R.pair (R.int IntKind.i64) R.bool)))))]

abbrev pBusyRs : Rs := Rs.one (Sh.one R.bool)

noncomputable def pBusyT (c : TC × Int × List Int × TY × Int × Bool) : RT (Bool) :=
  let x1 : Bool := decide (iN (List.length c.2.2.1) > 0) || c.2.1 != 0
  .leaf (bif decide (c.2.2.2.2.1 ≥ 2) then decide (c.2.2.2.2.1 ≤ 7) || x1 else x1)

noncomputable def pBusy (c : TC × Int × List Int × TY × Int × Bool) : Bool := (pBusyT c).val

noncomputable def pBusyE : Entry := pureE pBusyTs pBusyRs (fun _ => none) (fun a => pBusy a)

theorem pBusy_ok : EntryOk Tryz.prog 39 pBusyE :=
  pure_tot (P := Tryz.prog) (n := 7) (k := 8) (l := []) (ol := []) trivial Tryz.func39 rfl (by kernel_rfl) Tryz.call39 trivial (ts := pBusyTs) (rs := pBusyRs) (t := fun a => pBusyT a) (fun a => by kernel_rfl)

abbrev rBusyTs : List Sh := [Sh.agg (R.pair (R.pair (R.int IntKind.i64) (R.pair (R.pair (R.int IntKind.u8) (R.pair (R.int IntKind.u8) (R.pair (R.int IntKind.u8) (R.pair (R.int IntKind.u8) (R.pair (R.int IntKind.u8) (R.pair (R.int IntKind.u8) (R.pair (R.int IntKind.u8) (R.pair (R.pair R.bool (R.pair R.bool (R.pair R.bool (R.pair R.bool (R.pair R.bool (R.pair R.bool R.bool)))))) (R.pair (R.int IntKind.u16) (R.int IntKind.u16)))))))))) (R.pair R.bool (R.pair R.bool (R.pair R.bool (R.pair (R.int IntKind.u8) (R.pair R.bool (R.pair R.bool (R.pair R.bool (R.pair R.bool (R.pair R.bool (R.pair R.bool R.bool)))))))))))) (R.pair (R.int IntKind.i64) (R.pair (R.sl (R.int IntKind.u8)) (R.pair (RY) (R.pair (R.int IntKind.i64) R.bool)))))]

abbrev rBusyRs : Rs := Rs.one (Sh.one R.bool)

noncomputable def rBusyT (c : TC × Int × List Int × TY × Int × Bool) : RT (Bool) :=
  let x1 : Bool := decide (iN (List.length c.2.2.1) > 0) || c.2.1 != 0
  .leaf (bif decide (c.2.2.2.2.1 ≥ 2) then decide (c.2.2.2.2.1 ≤ 7) || x1 else x1)

noncomputable def rBusy (c : TC × Int × List Int × TY × Int × Bool) : Bool := (rBusyT c).val

noncomputable def rBusyE : Entry := pureE rBusyTs rBusyRs (fun _ => none) (fun a => rBusy a)

theorem rBusy_ok : EntryOk Tryz.prog 40 rBusyE :=
  pure_tot (P := Tryz.prog) (n := 7) (k := 8) (l := []) (ol := []) trivial Tryz.func40 rfl (by kernel_rfl) Tryz.call40 trivial (ts := rBusyTs) (rs := rBusyRs) (t := fun a => rBusyT a) (fun a => by kernel_rfl)

abbrev pAccTs : List Sh := [Sh.one (R.int IntKind.i64)]

abbrev pAccRs : Rs := Rs.one (Sh.one R.bool)

noncomputable def pAccT (k : Int) : RT (Bool) :=
  .leaf (rAccepts k)

noncomputable def pAcc (k : Int) : Bool := (pAccT k).val

noncomputable def pAccE : Entry := pureE pAccTs pAccRs (fun _ => none) (fun a => pAcc a)

theorem pAcc_ok : EntryOk Tryz.prog 42 pAccE :=
  pure_tot (P := Tryz.prog) (n := 7) (k := 8) (l := [(97, pAccepts1E)]) (ol := []) ⟨pAccepts1_ok, trivial⟩ Tryz.func42 rfl (by kernel_rfl) Tryz.call42 trivial (ts := pAccTs) (rs := pAccRs) (t := fun a => pAccT a) (fun a => by kernel_rfl)

noncomputable def datstateref14_SameBytesE : Entry := .tree (evFunc (envX Tryz.prog [] [] 31 8) Tryz.f32)

theorem datstateref14_SameBytes_ok : EntryOk Tryz.prog 32 datstateref14_SameBytesE := inl_ok (P := Tryz.prog) (n := 31) (k := 8) (l := []) (ol := []) trivial Tryz.func32 rfl (by kernel_rfl) Tryz.call32 trivial

abbrev rSameTs : List Sh := [Sh.agg (R.pair (R.pair (R.int IntKind.i64) (R.pair (R.pair (R.int IntKind.u8) (R.pair (R.int IntKind.u8) (R.pair (R.int IntKind.u8) (R.pair (R.int IntKind.u8) (R.pair (R.int IntKind.u8) (R.pair (R.int IntKind.u8) (R.pair (R.int IntKind.u8) (R.pair (R.pair R.bool (R.pair R.bool (R.pair R.bool (R.pair R.bool (R.pair R.bool (R.pair R.bool R.bool)))))) (R.pair (R.int IntKind.u16) (R.int IntKind.u16)))))))))) (R.pair R.bool (R.pair R.bool (R.pair R.bool (R.pair (R.int IntKind.u8) (R.pair R.bool (R.pair R.bool (R.pair R.bool (R.pair R.bool (R.pair R.bool (R.pair R.bool R.bool)))))))))))) (R.pair (R.int IntKind.i64) (R.pair (R.sl (R.int IntKind.u8)) (R.pair (RY) (R.pair (R.int IntKind.i64) R.bool))))), Sh.agg (R.pair (R.pair (R.int IntKind.i64) (R.pair (R.pair (R.int IntKind.u8) (R.pair (R.int IntKind.u8) (R.pair (R.int IntKind.u8) (R.pair (R.int IntKind.u8) (R.pair (R.int IntKind.u8) (R.pair (R.int IntKind.u8) (R.pair (R.int IntKind.u8) (R.pair (R.pair R.bool (R.pair R.bool (R.pair R.bool (R.pair R.bool (R.pair R.bool (R.pair R.bool R.bool)))))) (R.pair (R.int IntKind.u16) (R.int IntKind.u16)))))))))) (R.pair R.bool (R.pair R.bool (R.pair R.bool (R.pair (R.int IntKind.u8) (R.pair R.bool (R.pair R.bool (R.pair R.bool (R.pair R.bool (R.pair R.bool (R.pair R.bool R.bool)))))))))))) (R.pair (R.int IntKind.i64) (R.pair (R.sl (R.int IntKind.u8)) (R.pair (RY) (R.pair (R.int IntKind.i64) R.bool)))))]

abbrev rSameRs : Rs := Rs.one (Sh.one R.bool)

noncomputable def rSameT (a : TC × Int × List Int × TY × Int × Bool) (b : TC × Int × List Int × TY × Int × Bool) : RT (Bool) :=
  let x1 : Bool × Bool × Bool × Bool × Bool := a.1.2.1.2.2.2.2.2.2.2.1.2.2
  let x2 : Bool × Bool × Bool × Bool × Bool := b.1.2.1.2.2.2.2.2.2.2.1.2.2
  let x3 : Bool × Bool × Bool × Bool := x1.2
  let x4 : Bool × Bool × Bool × Bool := x2.2
  let x5 : Bool × Bool × Bool := x3.2
  let x6 : Bool × Bool × Bool := x4.2
  let x7 : Bool × Bool := x5.2
  let x8 : Bool × Bool := x6.2
  .leaf (a.1.1 == b.1.1 && (a.1.2.1.1 == b.1.2.1.1 && (a.1.2.1.2.1 == b.1.2.1.2.1 && (a.1.2.1.2.2.1 == b.1.2.1.2.2.1 && (a.1.2.1.2.2.2.1 == b.1.2.1.2.2.2.1 && (a.1.2.1.2.2.2.2.1 == b.1.2.1.2.2.2.2.1 && (a.1.2.1.2.2.2.2.2.1 == b.1.2.1.2.2.2.2.2.1 && (a.1.2.1.2.2.2.2.2.2.1 == b.1.2.1.2.2.2.2.2.2.1 && (a.1.2.1.2.2.2.2.2.2.2.1.1 == b.1.2.1.2.2.2.2.2.2.2.1.1 && (a.1.2.1.2.2.2.2.2.2.2.1.2.1 == b.1.2.1.2.2.2.2.2.2.2.1.2.1 && (x1.1 == x2.1 && (x3.1 == x4.1 && (x5.1 == x6.1 && (x7.1 == x8.1 && (x7.2 == x8.2 && (a.1.2.1.2.2.2.2.2.2.2.2.1 == b.1.2.1.2.2.2.2.2.2.2.2.1 && (a.1.2.1.2.2.2.2.2.2.2.2.2 == b.1.2.1.2.2.2.2.2.2.2.2.2 && (a.1.2.2.1 == b.1.2.2.1 && (a.1.2.2.2.1 == b.1.2.2.2.1 && (a.1.2.2.2.2.1 == b.1.2.2.2.2.1 && (a.1.2.2.2.2.2.1 == b.1.2.2.2.2.2.1 && (a.1.2.2.2.2.2.2.1 == b.1.2.2.2.2.2.2.1 && (a.1.2.2.2.2.2.2.2.1 == b.1.2.2.2.2.2.2.2.1 && (a.1.2.2.2.2.2.2.2.2.1 == b.1.2.2.2.2.2.2.2.2.1 && (a.1.2.2.2.2.2.2.2.2.2.1 == b.1.2.2.2.2.2.2.2.2.2.1 && (a.1.2.2.2.2.2.2.2.2.2.2.1 == b.1.2.2.2.2.2.2.2.2.2.2.1 && (a.1.2.2.2.2.2.2.2.2.2.2.2.1 == b.1.2.2.2.2.2.2.2.2.2.2.2.1 && (a.1.2.2.2.2.2.2.2.2.2.2.2.2 == b.1.2.2.2.2.2.2.2.2.2.2.2.2 && true))))))))))))))))))))))))))) && (a.2.1 == b.2.1 && (ByteArray.toList (strOf a.2.2.1) == ByteArray.toList (strOf b.2.2.1) && (a.2.2.2.1.1 == b.2.2.2.1.1 && (a.2.2.2.1.2.1 == b.2.2.2.1.2.1 && (a.2.2.2.1.2.2.1 == b.2.2.2.1.2.2.1 && (a.2.2.2.1.2.2.2 == b.2.2.2.1.2.2.2 && true))) && (a.2.2.2.2.1 == b.2.2.2.2.1 && a.2.2.2.2.2 == b.2.2.2.2.2)))))

noncomputable def rSame (a : TC × Int × List Int × TY × Int × Bool) (b : TC × Int × List Int × TY × Int × Bool) : Bool := (rSameT a b).val

noncomputable def rSameE : Entry := pureE rSameTs rSameRs (fun _ => none) (fun a => rSame a.1 a.2)

theorem rSame_ok : EntryOk Tryz.prog 38 rSameE :=
  pure_tot (P := Tryz.prog) (n := 31) (k := 8) (l := [(32, datstateref14_SameBytesE)]) (ol := []) ⟨datstateref14_SameBytes_ok, trivial⟩ Tryz.func38 rfl (by kernel_rfl) Tryz.call38 trivial (ts := rSameTs) (rs := rSameRs) (t := fun a => rSameT a.1 a.2) (fun a => by kernel_rfl)
end
end Go.Proofs.YteboknglfjadoaaGreat
