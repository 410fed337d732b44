/-
  Contracts of functions; each found by the symbolic executor and checked by the kernel. Conditions: none.
-/
import Derived.Test.YtfejikddclgkcaaS3D
import Derived.Test.YtfejikddclgkcaaProg
import Derived.Test.YtfejikddclgkcaaMemE
set_option linter.unusedSimpArgs false
open Go Go.S3 Go.Proofs
set_option linter.unusedVariables false
set_option maxRecDepth 100000
namespace Go.Proofs.Ytfejikddclgkcaa
noncomputable section
abbrev kKnMTs : List Sh := []

abbrev kKnMRs : Rs := Rs.one (Sh.one R.bool)

noncomputable def kKnMT : RT (Option (Bool)) :=
  let x1 : Bool := !Cells.getX (loadX 65535 [1, 2]) 65535 == 1 || smC (loadX 65535 [1, 2])
  let x2 : Bool := !x1
  let x3 : Bool := !Cells.getX (loadX 65535 [1, 2]) 65535 == 1 || (!Cells.getX (loadX 65535 [1, 2]) 0 == 2 || smC (loadX 65535 [1, 2]))
  .br (smB [1, 2])
  (.br (!smC (loadX 65535 [1, 2]) || (x2 || (!x3 || (!Cells.getX (loadX 65535 [1, 2]) 65535 == 1 || (!Cells.getX (loadX 65535 [1, 2]) 0 == 2 || (!iN (List.length (Cells.putX (Cells.normX (loadX 65535 [1, 2])) (0, 0))) == 1 || smC (loadX 65535 [1, 2])))))))
   (.br (!smC (loadX 65535 [1, 2]) || (x2 || x3))
    (.br (!smC (loadX 65535 [1, 2]) || x1)
     (.br (smC (loadX 65535 [1, 2]))
      (.leaf (some (true)))
      (.leaf none))
     (.leaf none))
    (.leaf none))
   (.leaf none))
  (.leaf none)

noncomputable def kKnM : Bool := getO kKnMRs.dflt (kKnMT ).val

noncomputable def kKnMC : Bool := okB (kKnMT ).val

noncomputable def kKnME : Entry := pureE kKnMTs kKnMRs (fun a => some (kKnMC )) (fun a => kKnM )

theorem kKnM_ok : EntryOk Try.prog 13 kKnME :=
  pure_part (P := Try.prog) (n := 3) (k := 8) (l := [(17, mValid1E), (19, mGet1E), (23, mPut1E), (25, mLoad1E)]) (ol := []) ⟨mValid1_ok, mGet1_ok, mPut1_ok, mLoad1_ok, trivial⟩ Try.func13 rfl (by kernel_rfl) Try.call13 trivial (ts := kKnMTs) (rs := kKnMRs) (t := fun a => kKnMT ) (fun a => by kernel_rfl)

noncomputable def mltstatemake_FromE : Entry := .tree (evFunc (envX Try.prog [] [] 7 8) Try.f15)


theorem mltstatemake_From_ok : EntryOk Try.prog 15 mltstatemake_FromE := inl_ok (P := Try.prog) (n := 7) (k := 8) (l := []) (ol := []) trivial Try.func15 rfl (by kernel_rfl) Try.call15 trivial


abbrev lMVTs : List Sh := [Sh.one (R.sl (R.pair (R.int IntKind.u16) (R.int IntKind.u8))), Sh.one (R.sl (R.int IntKind.i64)), Sh.one (R.int IntKind.u16)]

abbrev lMVRs : Rs := Rs.one (Sh.one R.bool)

noncomputable def lMVT (l : List (Int × Int)) (n : List Int) (t : Int) : RT (Option (Bool)) :=
  let x1 : Bool := !vldB l == vldB l || (Cells.getX l t != Cells.getX l t || smC l)
  let x2 : Bool := !smC l || (!smC l || (!(!vldB l == vldB l || smC l) || (!(!vldB l == vldB l || smC l) || (!x1 || x1))))
  let x3 : Bool := !x2
  let x4 : Bool := !smC l || (!smC l || (!(!vldB l == vldB l || smC l) || (!(!vldB l == vldB l || smC l) || x1)))
  let x5 : Bool := !x4
  let x6 : Bool := !smC l || (!smC l || (!(!vldB l == vldB l || smC l) || (!vldB l == vldB l || smC l)))
  let x7 : Bool := !x6
  let x8 : Bool := !smC l || (!smC l || (!vldB l == vldB l || smC l))
  let x9 : Bool := !x8
  let x10 : Bool := x3 || (x5 || (x7 || (x9 || (!(!smC l || smC l) || smC l))))
  let x11 : Bool := !x10
  let x12 : Bool := x3 || (x5 || (x7 || (x9 || (!smC l || smC l))))
  let x13 : Bool := !x12
  let x14 : Bool := x3 || (x5 || (x7 || x8))
  let x15 : Bool := !x14
  let x16 : Bool := x3 || (x5 || x6)
  let x17 : Bool := !x16
  let x18 : Bool := x3 || x4
  let x19 : Bool := !x18
  let x20 : Bool := !vldB l == vldB l || (Cells.getX l t != Cells.getX l t || Cells.getX l (andI IntKind.u16 t 63) != Cells.getX l (andI IntKind.u16 t 63))
  let x21 : Bool := !vldB (nCells (n, 0) 12).1 == vldB (nCells (n, 0) 12).1
  let x22 : Bool := x21 || smC (nCells (n, 0) 12).1
  let x23 : Bool := !x22
  let x24 : Bool := Cells.getX (nCells (n, 0) 12).1 t != Cells.getX (nCells (n, 0) 12).1 t
  let x25 : Bool := x21 || (x24 || smC (nCells (n, 0) 12).1)
  let x26 : Bool := !smC (nCells (n, 0) 12).1 || (!smC (nCells (n, 0) 12).1 || (x23 || (x23 || (!x25 || x25))))
  let x27 : Bool := !x26
  let x28 : Bool := !smC (nCells (n, 0) 12).1 || (!smC (nCells (n, 0) 12).1 || (x23 || (x23 || x25)))
  let x29 : Bool := !x28
  let x30 : Bool := !smC (nCells (n, 0) 12).1 || (!smC (nCells (n, 0) 12).1 || (x23 || x22))
  let x31 : Bool := !x30
  let x32 : Bool := !smC (nCells (n, 0) 12).1 || (!smC (nCells (n, 0) 12).1 || x22)
  let x33 : Bool := !x32
  let x34 : Bool := !smC (nCells (n, 0) 12).1 || smC (nCells (n, 0) 12).1
  let x35 : Bool := x27 || (x29 || (x31 || (x33 || (!x34 || smC (nCells (n, 0) 12).1))))
  let x36 : Bool := !x35
  let x37 : Bool := x27 || (x29 || (x31 || (x33 || x34)))
  let x38 : Bool := !x37
  let x39 : Bool := x27 || (x29 || (x31 || x32))
  let x40 : Bool := !x39
  let x41 : Bool := x27 || (x29 || x30)
  let x42 : Bool := !x41
  let x43 : Bool := x27 || x28
  let x44 : Bool := !x43
  let x45 : Bool := x21 || (x24 || Cells.getX (nCells (n, 0) 12).1 (andI IntKind.u16 t 63) != Cells.getX (nCells (n, 0) 12).1 (andI IntKind.u16 t 63))
  let x46 : Bool := !vldB (Cells.normX (nCells (n, 0) 12).1) == vldB (Cells.normX (nCells (n, 0) 12).1)
  let x47 : Bool := x46 || smC (Cells.normX (nCells (n, 0) 12).1)
  let x48 : Bool := !x47
  let x49 : Bool := Cells.getX (Cells.normX (nCells (n, 0) 12).1) t != Cells.getX (Cells.normX (nCells (n, 0) 12).1) t
  let x50 : Bool := x46 || (x49 || smC (Cells.normX (nCells (n, 0) 12).1))
  let x51 : Bool := !smC (Cells.normX (nCells (n, 0) 12).1) || (!smC (Cells.normX (nCells (n, 0) 12).1) || (x48 || (x48 || (!x50 || x50))))
  let x52 : Bool := !x51
  let x53 : Bool := !smC (Cells.normX (nCells (n, 0) 12).1) || (!smC (Cells.normX (nCells (n, 0) 12).1) || (x48 || (x48 || x50)))
  let x54 : Bool := !x53
  let x55 : Bool := !smC (Cells.normX (nCells (n, 0) 12).1) || (!smC (Cells.normX (nCells (n, 0) 12).1) || (x48 || x47))
  let x56 : Bool := !x55
  let x57 : Bool := !smC (Cells.normX (nCells (n, 0) 12).1) || (!smC (Cells.normX (nCells (n, 0) 12).1) || x47)
  let x58 : Bool := !x57
  let x59 : Bool := !smC (Cells.normX (nCells (n, 0) 12).1) || smC (Cells.normX (nCells (n, 0) 12).1)
  let x60 : Bool := x52 || (x54 || (x56 || (x58 || (!x59 || smC (Cells.normX (nCells (n, 0) 12).1)))))
  let x61 : Bool := !x60
  let x62 : Bool := x52 || (x54 || (x56 || (x58 || x59)))
  let x63 : Bool := !x62
  let x64 : Bool := x52 || (x54 || (x56 || x57))
  let x65 : Bool := !x64
  let x66 : Bool := x52 || (x54 || x55)
  let x67 : Bool := !x66
  let x68 : Bool := x52 || x53
  .br (!(decide (iN (List.length l) > 60) || decide (iN (List.length n) > 100)) || kKnMC)
  (.br (decide (iN (List.length l) > 60) || decide (iN (List.length n) > 100))
   (.leaf (some (true)))
   (.br (nCellsC (n, 0) 12)
    (.br (smC (nCells (n, 0) 12).1)
     (.br (x11 || (x13 || (x15 || (x17 || (x19 || (x3 || (x20 || (x36 || (x38 || (x40 || (x42 || (x44 || (x27 || (x45 || (x61 || (x63 || (x65 || (x67 || (!x68 || x51)))))))))))))))))))
      (.br (x11 || (x13 || (x15 || (x17 || (x19 || (x3 || (x20 || (x36 || (x38 || (x40 || (x42 || (x44 || (x27 || (x45 || (x61 || (x63 || (x65 || (x67 || x68))))))))))))))))))
       (.br (x11 || (x13 || (x15 || (x17 || (x19 || (x3 || (x20 || (x36 || (x38 || (x40 || (x42 || (x44 || (x27 || (x45 || (x61 || (x63 || (x65 || x66)))))))))))))))))
        (.br (x11 || (x13 || (x15 || (x17 || (x19 || (x3 || (x20 || (x36 || (x38 || (x40 || (x42 || (x44 || (x27 || (x45 || (x61 || (x63 || x64))))))))))))))))
         (.br (x11 || (x13 || (x15 || (x17 || (x19 || (x3 || (x20 || (x36 || (x38 || (x40 || (x42 || (x44 || (x27 || (x45 || (x61 || x62)))))))))))))))
          (.br (x11 || (x13 || (x15 || (x17 || (x19 || (x3 || (x20 || (x36 || (x38 || (x40 || (x42 || (x44 || (x27 || (x45 || x60))))))))))))))
           (.br (x11 || (x13 || (x15 || (x17 || (x19 || (x3 || (x20 || (x36 || (x38 || (x40 || (x42 || (x44 || x26))))))))))))
            (.br (x11 || (x13 || (x15 || (x17 || (x19 || (x3 || (x20 || (x36 || (x38 || (x40 || (x42 || x43)))))))))))
             (.br (x11 || (x13 || (x15 || (x17 || (x19 || (x3 || (x20 || (x36 || (x38 || (x40 || x41))))))))))
              (.br (x11 || (x13 || (x15 || (x17 || (x19 || (x3 || (x20 || (x36 || (x38 || x39)))))))))
               (.br (x11 || (x13 || (x15 || (x17 || (x19 || (x3 || (x20 || (x36 || x37))))))))
                (.br (x11 || (x13 || (x15 || (x17 || (x19 || (x3 || (x20 || x35)))))))
                 (.br (x11 || (x13 || (x15 || (x17 || (x19 || x2)))))
                  (.br (x11 || (x13 || (x15 || (x17 || x18))))
                   (.br (x11 || (x13 || (x15 || x16)))
                    (.br (x11 || (x13 || x14))
                     (.br (x11 || x12)
                      (.br (x10)
                       (.br (x20)
                        (.leaf (some (false)))
                        (.br (x45)
                         (.leaf (some (false)))
                         (.br (x46 || (x49 || Cells.getX (Cells.normX (nCells (n, 0) 12).1) (andI IntKind.u16 t 63) != Cells.getX (Cells.normX (nCells (n, 0) 12).1) (andI IntKind.u16 t 63)))
                          (.leaf (some (false)))
                          (.br (kKnMC)
                           (.leaf (some (true)))
                           (.leaf none)))))
                       (.leaf none))
                      (.leaf none))
                     (.leaf none))
                    (.leaf none))
                   (.leaf none))
                  (.leaf none))
                 (.leaf none))
                (.leaf none))
               (.leaf none))
              (.leaf none))
             (.leaf none))
            (.leaf none))
           (.leaf none))
          (.leaf none))
         (.leaf none))
        (.leaf none))
       (.leaf none))
      (.leaf none))
     (.leaf none))
    (.leaf none)))
  (.leaf none)

noncomputable def lMV (l : List (Int × Int)) (n : List Int) (t : Int) : Bool := getO lMVRs.dflt (lMVT l n t).val

noncomputable def lMVC (l : List (Int × Int)) (n : List Int) (t : Int) : Bool := okB (lMVT l n t).val

noncomputable def lMVE : Entry := pureE lMVTs lMVRs (fun a => some (lMVC a.1 a.2.1 a.2.2)) (fun a => lMV a.1 a.2.1 a.2.2)

theorem lMV_ok : EntryOk Try.prog 3 lMVE :=
  pure_part (P := Try.prog) (n := 1023) (k := 8) (l := [(13, kKnME), (14, nCellsE), (15, mltstatemake_FromE), (16, rNorm1E), (17, mValid1E), (18, rValid1E), (19, mGet1E), (20, rGetM1E)]) (ol := []) ⟨kKnM_ok, nCells_ok, mltstatemake_From_ok, rNorm1_ok, mValid1_ok, rValid1_ok, mGet1_ok, rGetM1_ok, trivial⟩ Try.func3 rfl (by kernel_rfl) Try.call3 trivial (ts := lMVTs) (rs := lMVRs) (t := fun a => lMVT a.1 a.2.1 a.2.2) (fun a => by kernel_rfl)

abbrev lMNTs : List Sh := [Sh.one (R.sl (R.pair (R.int IntKind.u16) (R.int IntKind.u8))), Sh.one (R.sl (R.int IntKind.i64)), Sh.one (R.int IntKind.u16), Sh.one (R.int IntKind.u8)]

abbrev lMNRs : Rs := Rs.one (Sh.one R.bool)

noncomputable def lMNT (l : List (Int × Int)) (n : List Int) (t : Int) (v : Int) : RT (Option (Bool)) :=
  let x1 : Bool := !decide (Cells.normX l = Cells.normX l) || smC (Cells.putX (Cells.normX l) (t, v))
  let x2 : Bool := !x1
  let x3 : Bool := !decide (Cells.putX (Cells.normX l) (t, v) = Cells.putX (Cells.normX l) (t, v))
  let x4 : Bool := !decide (Cells.normX l = Cells.normX l) || (x3 || smC l)
  let x5 : Bool := !smC l || (!smC l || (!smC (Cells.normX l) || (!(!decide (Cells.normX l = Cells.normX l) || smC l) || (!(!decide (Cells.normX l = Cells.normX l) || smC l) || (x2 || (!x4 || (!decide (Cells.normX l = Cells.normX l) || (x3 || smC (Cells.normX l)))))))))
  let x6 : Bool := !x5
  let x7 : Bool := !smC l || (!smC l || (!smC (Cells.normX l) || (!(!decide (Cells.normX l = Cells.normX l) || smC l) || (!(!decide (Cells.normX l = Cells.normX l) || smC l) || (x2 || x4)))))
  let x8 : Bool := !x7
  let x9 : Bool := !smC l || (!smC l || (!smC (Cells.normX l) || (!(!decide (Cells.normX l = Cells.normX l) || smC l) || (!(!decide (Cells.normX l = Cells.normX l) || smC l) || x1))))
  let x10 : Bool := !x9
  let x11 : Bool := !smC l || (!smC l || (!smC (Cells.normX l) || (!(!decide (Cells.normX l = Cells.normX l) || smC l) || (!decide (Cells.normX l = Cells.normX l) || smC l))))
  let x12 : Bool := !x11
  let x13 : Bool := !smC l || (!smC l || (!smC (Cells.normX l) || (!decide (Cells.normX l = Cells.normX l) || smC l)))
  let x14 : Bool := !x13
  let x15 : Bool := x6 || (x8 || (x10 || (x12 || (x14 || (!(!smC l || (!smC l || smC (Cells.normX l))) || (!(!smC l || smC l) || smC l))))))
  let x16 : Bool := !x15
  let x17 : Bool := x6 || (x8 || (x10 || (x12 || (x14 || (!(!smC l || (!smC l || smC (Cells.normX l))) || (!smC l || smC l))))))
  let x18 : Bool := !x17
  let x19 : Bool := x6 || (x8 || (x10 || (x12 || (x14 || (!smC l || (!smC l || smC (Cells.normX l)))))))
  let x20 : Bool := !x19
  let x21 : Bool := x6 || (x8 || (x10 || (x12 || x13)))
  let x22 : Bool := !x21
  let x23 : Bool := x6 || (x8 || (x10 || x11))
  let x24 : Bool := !x23
  let x25 : Bool := x6 || (x8 || x9)
  let x26 : Bool := !x25
  let x27 : Bool := x6 || x7
  let x28 : Bool := !x27
  let x29 : Bool := !decide (Cells.normX l = Cells.normX l) || (x3 || !vldB (Cells.normX l))
  let x30 : Bool := !decide (Cells.normX (nCells (n, 0) 12).1 = Cells.normX (nCells (n, 0) 12).1)
  let x31 : Bool := x30 || smC (nCells (n, 0) 12).1
  let x32 : Bool := !x31
  let x33 : Bool := x30 || smC (Cells.putX (Cells.normX (nCells (n, 0) 12).1) (t, v))
  let x34 : Bool := !x33
  let x35 : Bool := !decide (Cells.putX (Cells.normX (nCells (n, 0) 12).1) (t, v) = Cells.putX (Cells.normX (nCells (n, 0) 12).1) (t, v))
  let x36 : Bool := x30 || (x35 || smC (nCells (n, 0) 12).1)
  let x37 : Bool := !smC (nCells (n, 0) 12).1 || (!smC (nCells (n, 0) 12).1 || (!smC (Cells.normX (nCells (n, 0) 12).1) || (x32 || (x32 || (x34 || (!x36 || (x30 || (x35 || smC (Cells.normX (nCells (n, 0) 12).1)))))))))
  let x38 : Bool := !x37
  let x39 : Bool := !smC (nCells (n, 0) 12).1 || (!smC (nCells (n, 0) 12).1 || (!smC (Cells.normX (nCells (n, 0) 12).1) || (x32 || (x32 || (x34 || x36)))))
  let x40 : Bool := !x39
  let x41 : Bool := !smC (nCells (n, 0) 12).1 || (!smC (nCells (n, 0) 12).1 || (!smC (Cells.normX (nCells (n, 0) 12).1) || (x32 || (x32 || x33))))
  let x42 : Bool := !x41
  let x43 : Bool := !smC (nCells (n, 0) 12).1 || (!smC (nCells (n, 0) 12).1 || (!smC (Cells.normX (nCells (n, 0) 12).1) || (x32 || x31)))
  let x44 : Bool := !x43
  let x45 : Bool := !smC (nCells (n, 0) 12).1 || (!smC (nCells (n, 0) 12).1 || (!smC (Cells.normX (nCells (n, 0) 12).1) || x31))
  let x46 : Bool := !x45
  let x47 : Bool := !smC (nCells (n, 0) 12).1 || (!smC (nCells (n, 0) 12).1 || smC (Cells.normX (nCells (n, 0) 12).1))
  let x48 : Bool := !x47
  let x49 : Bool := !smC (nCells (n, 0) 12).1 || smC (nCells (n, 0) 12).1
  let x50 : Bool := x38 || (x40 || (x42 || (x44 || (x46 || (x48 || (!x49 || smC (nCells (n, 0) 12).1))))))
  let x51 : Bool := !x50
  let x52 : Bool := x38 || (x40 || (x42 || (x44 || (x46 || (x48 || x49)))))
  let x53 : Bool := !x52
  let x54 : Bool := x38 || (x40 || (x42 || (x44 || (x46 || x47))))
  let x55 : Bool := !x54
  let x56 : Bool := x38 || (x40 || (x42 || (x44 || x45)))
  let x57 : Bool := !x56
  let x58 : Bool := x38 || (x40 || (x42 || x43))
  let x59 : Bool := !x58
  let x60 : Bool := x38 || (x40 || x41)
  let x61 : Bool := !x60
  let x62 : Bool := x38 || x39
  .br (!(decide (iN (List.length l) > 60) || decide (iN (List.length n) > 100)) || kKnMC)
  (.br (decide (iN (List.length l) > 60) || decide (iN (List.length n) > 100))
   (.leaf (some (true)))
   (.br (nCellsC (n, 0) 12)
    (.br (x16 || (x18 || (x20 || (x22 || (x24 || (x26 || (x28 || (x6 || (x29 || (x51 || (x53 || (x55 || (x57 || (x59 || (x61 || (!x62 || x37))))))))))))))))
     (.br (x16 || (x18 || (x20 || (x22 || (x24 || (x26 || (x28 || (x6 || (x29 || (x51 || (x53 || (x55 || (x57 || (x59 || (x61 || x62)))))))))))))))
      (.br (x16 || (x18 || (x20 || (x22 || (x24 || (x26 || (x28 || (x6 || (x29 || (x51 || (x53 || (x55 || (x57 || (x59 || x60))))))))))))))
       (.br (x16 || (x18 || (x20 || (x22 || (x24 || (x26 || (x28 || (x6 || (x29 || (x51 || (x53 || (x55 || (x57 || x58)))))))))))))
        (.br (x16 || (x18 || (x20 || (x22 || (x24 || (x26 || (x28 || (x6 || (x29 || (x51 || (x53 || (x55 || x56))))))))))))
         (.br (x16 || (x18 || (x20 || (x22 || (x24 || (x26 || (x28 || (x6 || (x29 || (x51 || (x53 || x54)))))))))))
          (.br (x16 || (x18 || (x20 || (x22 || (x24 || (x26 || (x28 || (x6 || (x29 || (x51 || x52))))))))))
           (.br (x16 || (x18 || (x20 || (x22 || (x24 || (x26 || (x28 || (x6 || (x29 || x50)))))))))
            (.br (x16 || (x18 || (x20 || (x22 || (x24 || (x26 || (x28 || x5)))))))
             (.br (x16 || (x18 || (x20 || (x22 || (x24 || (x26 || x27))))))
              (.br (x16 || (x18 || (x20 || (x22 || (x24 || x25)))))
               (.br (x16 || (x18 || (x20 || (x22 || x23))))
                (.br (x16 || (x18 || (x20 || x21)))
                 (.br (x16 || (x18 || x19))
                  (.br (x16 || x17)
                   (.br (x15)
                    (.br (x29)
                     (.leaf (some (false)))
                     (.br (x30 || (x35 || !vldB (Cells.normX (nCells (n, 0) 12).1)))
                      (.leaf (some (false)))
                      (.br (kKnMC)
                       (.leaf (some (true)))
                       (.leaf none))))
                    (.leaf none))
                   (.leaf none))
                  (.leaf none))
                 (.leaf none))
                (.leaf none))
               (.leaf none))
              (.leaf none))
             (.leaf none))
            (.leaf none))
           (.leaf none))
          (.leaf none))
         (.leaf none))
        (.leaf none))
       (.leaf none))
      (.leaf none))
     (.leaf none))
    (.leaf none)))
  (.leaf none)

noncomputable def lMN (l : List (Int × Int)) (n : List Int) (t : Int) (v : Int) : Bool := getO lMNRs.dflt (lMNT l n t v).val

noncomputable def lMNC (l : List (Int × Int)) (n : List Int) (t : Int) (v : Int) : Bool := okB (lMNT l n t v).val

noncomputable def lMNE : Entry := pureE lMNTs lMNRs (fun a => some (lMNC a.1 a.2.1 a.2.2.1 a.2.2.2)) (fun a => lMN a.1 a.2.1 a.2.2.1 a.2.2.2)

theorem lMN_ok : EntryOk Try.prog 4 lMNE :=
  pure_part (P := Try.prog) (n := 4095) (k := 8) (l := [(13, kKnME), (14, nCellsE), (15, mltstatemake_FromE), (16, rNorm1E), (17, mValid1E), (21, rSameM1E), (22, mNorm1E), (23, mPut1E), (24, rPutM1E)]) (ol := []) ⟨kKnM_ok, nCells_ok, mltstatemake_From_ok, rNorm1_ok, mValid1_ok, rSameM1_ok, mNorm1_ok, mPut1_ok, rPutM1_ok, trivial⟩ Try.func4 rfl (by kernel_rfl) Try.call4 trivial (ts := lMNTs) (rs := lMNRs) (t := fun a => lMNT a.1 a.2.1 a.2.2.1 a.2.2.2) (fun a => by kernel_rfl)

abbrev lMLTs : List Sh := [Sh.one (R.int IntKind.u16), Sh.one (R.sl (R.int IntKind.u8))]

abbrev lMLRs : Rs := Rs.one (Sh.one R.bool)

def lMLL0c : LS := { n := 39, slots := [(0, .code (Sh.one (R.int IntKind.u16))), (1, .code (Sh.one (R.sl (R.int IntKind.u8)))), (4, .code (Sh.one R.bool)), (5, .code (Sh.one (R.sl (R.pair (R.int IntKind.u16) (R.int IntKind.u8))))), (15, .code (Sh.one (R.int IntKind.i64))), (16, .code (Sh.one (R.int IntKind.i64)))], boxes := [], stgs := [] }


noncomputable def lMLL0T (a : Int × List Int × Bool × List (Int × Int) × Int × Int × PUnit) : RT (Option (Go1 (Int × List Int × Bool × List (Int × Int) × Int × Int × PUnit))) :=
  let x1 : Bool := !smC a.2.2.2.1 || inRng a.2.2.2.2.2.1 (List.length a.2.1)
  let x2 : List (Int × Int) × Int × Int × PUnit := (a.2.2.2.1, a.2.2.2.2.1, a.2.2.2.2.2.1, PUnit.unit)
  .br (decide (a.2.2.2.2.2.1 < a.2.2.2.2.1))
  (.br (!x1 || smC a.2.2.2.1)
   (.br (x1)
    (.br (Cells.getX a.2.2.2.1 (IntKind.u16.wrap (a.1 + IntKind.u16.wrap a.2.2.2.2.2.1)) != R.get (R.int IntKind.u8) a.2.1 a.2.2.2.2.2.1)
     (.leaf (some (Go1.ret (a.1, a.2.1, false, x2))))
     (.leaf (some (Go1.cont (a.1, a.2.1, a.2.2.1, a.2.2.2.1, a.2.2.2.2.1, IntKind.i64.wrap (a.2.2.2.2.2.1 + 1), PUnit.unit)))))
    (.leaf none))
   (.leaf none))
  (.leaf (some (Go1.brk (a.1, a.2.1, a.2.2.1, x2))))

noncomputable def lMLL0O : Ora := loopE true lMLL0c lMLL0T (fun a => 1000000000000)

theorem lMLL0_ok : OraOk (envX Try.prog [(13, kKnME), (19, mGet1E), (21, rSameM1E), (25, mLoad1E), (26, rLoad1E)] [] 127 8) (.block 0 (.loop (bodyIn Try.f5.body 0))) lMLL0O :=
  loop_part (envX_ok (l := [(13, kKnME), (19, mGet1E), (21, rSameM1E), (25, mLoad1E), (26, rLoad1E)]) ⟨kKnM_ok, mGet1_ok, rSameM1_ok, mLoad1_ok, rLoad1_ok, trivial⟩ [] 127 8) (loopsOk_bare (by kernel_rfl)) (fun a => by kernel_rfl)

noncomputable def lMLT (t : Int) (b : List Int) : RT (Option (Bool)) :=
  let x1 : Int × List Int × Bool × List (Int × Int) × Int × Int × PUnit := (t, b, false, loadX t b, iN (List.length b), 0, ())
  let x2 : Option (Bool × Int × List Int × Bool × List (Int × Int) × Int × Int × PUnit) := runF true lMLL0T (fun a => 1000000000000) x1
  let x3 : Bool × Int × List Int × Bool × List (Int × Int) × Int × Int × PUnit := getO (false, x1) x2
  let x4 : Int × List Int × Bool × List (Int × Int) × Int × Int × PUnit := x3.2
  let x5 : List Int × Bool × List (Int × Int) × Int × Int × PUnit := x4.2
  let x6 : Bool × List (Int × Int) × Int × Int × PUnit := x5.2
  let x7 : List Int := x5.1
  let x8 : Bool := smB x7
  let x9 : Bool := !x8
  let x10 : List (Int × Int) := x6.2.1
  let x11 : Bool := smC x10
  let x12 : Bool := decide (x10 = loadX x4.1 x7)
  .br (!decide (iN (List.length b) > 300) || kKnMC)
  (.br (decide (iN (List.length b) > 300))
   (.leaf (some (true)))
   (.br (smB b)
    (.br (okB x2)
     (.br x3.1
      (.leaf (some x6.1))
      (.br (x9 || (!x11 || (!x12 || kKnMC)))
       (.br (x9 || x11)
        (.br (x8)
         (.leaf (some (x12 && kKnM)))
         (.leaf none))
        (.leaf none))
       (.leaf none)))
     (.leaf none))
    (.leaf none)))
  (.leaf none)

noncomputable def lML (t : Int) (b : List Int) : Bool := getO lMLRs.dflt (lMLT t b).val

noncomputable def lMLC (t : Int) (b : List Int) : Bool := okB (lMLT t b).val

noncomputable def lMLE : Entry := pureE lMLTs lMLRs (fun a => some (lMLC a.1 a.2)) (fun a => lML a.1 a.2)

theorem lML_ok : EntryOk Try.prog 5 lMLE :=
  pure_part (P := Try.prog) (n := 127) (k := 8) (l := [(13, kKnME), (19, mGet1E), (21, rSameM1E), (25, mLoad1E), (26, rLoad1E)]) (ol := [(0, lMLL0O)]) ⟨kKnM_ok, mGet1_ok, rSameM1_ok, mLoad1_ok, rLoad1_ok, trivial⟩ Try.func5 rfl (by kernel_rfl) Try.call5 ⟨lMLL0_ok, trivial⟩ (ts := lMLTs) (rs := lMLRs) (t := fun a => lMLT a.1 a.2) (fun a => by kernel_rfl)

abbrev lMKTs : List Sh := [Sh.one (R.sl (R.int IntKind.i64)), Sh.one (R.int IntKind.u16), Sh.one (R.int IntKind.u16), Sh.one (R.int IntKind.u8)]

abbrev lMKRs : Rs := Rs.one (Sh.one R.bool)

def lMKL0c : LS := { n := 65, slots := [(1, .code (Sh.one (R.int IntKind.u16))), (3, .code (Sh.one (R.int IntKind.u8))), (8, .code (Sh.one R.bool)), (9, .code (Sh.one (R.sl (R.pair (R.int IntKind.u16) (R.int IntKind.u8))))), (10, .code (Sh.one (R.sl (R.pair (R.int IntKind.u16) (R.int IntKind.u8))))), (31, .code (Sh.one (R.sl (R.pair (R.int IntKind.u16) (R.int IntKind.u8))))), (32, .code (Sh.one (R.int IntKind.i64))), (33, .code (Sh.one (R.int IntKind.i64)))], boxes := [[.code (.sl (R.int IntKind.i64)), .code (.int IntKind.i64)]], stgs := [] }


noncomputable def lMKL0T (a : Int × Int × Bool × List (Int × Int) × List (Int × Int) × List (Int × Int) × Int × Int × List Int × Int × PUnit) : RT (Option (Go1 (Int × Int × Bool × List (Int × Int) × List (Int × Int) × List (Int × Int) × Int × Int × List Int × Int × PUnit))) :=
  let x1 : Bool := inRng a.2.2.2.2.2.2.2.1 (List.length a.2.2.2.2.2.1)
  let x2 : Bool := !x1
  let x3 : Int := (R.get (R.pair (R.int IntKind.u16) (R.int IntKind.u8)) a.2.2.2.2.2.1 a.2.2.2.2.2.2.2.1).1
  let x4 : Bool := x3 != a.1
  let x5 : Bool := !x4
  let x6 : Bool := x5 || (!smC a.2.2.2.2.1 || smC a.2.2.2.1)
  let x7 : List Int × Int × PUnit := (a.2.2.2.2.2.2.2.2.1, a.2.2.2.2.2.2.2.2.2.1, PUnit.unit)
  let x8 : List (Int × Int) × List (Int × Int) × List (Int × Int) × Int × Int × List Int × Int × PUnit := (a.2.2.2.1, a.2.2.2.2.1, a.2.2.2.2.2.1, a.2.2.2.2.2.2.1, a.2.2.2.2.2.2.2.1, x7)
  .br (decide (a.2.2.2.2.2.2.2.1 < a.2.2.2.2.2.2.1))
  (.br (x2 || (!x6 || (x5 || smC a.2.2.2.2.1)))
   (.br (x2 || x6)
    (.br (x1)
     (.br (x4 && Cells.getX a.2.2.2.2.1 x3 != Cells.getX a.2.2.2.1 x3)
      (.leaf (some (Go1.ret (a.1, a.2.1, false, x8))))
      (.leaf (some (Go1.cont (a.1, a.2.1, a.2.2.1, a.2.2.2.1, a.2.2.2.2.1, a.2.2.2.2.2.1, a.2.2.2.2.2.2.1, IntKind.i64.wrap (a.2.2.2.2.2.2.2.1 + 1), x7)))))
     (.leaf none))
    (.leaf none))
   (.leaf none))
  (.leaf (some (Go1.brk (a.1, a.2.1, a.2.2.1, x8))))

noncomputable def lMKL0O : Ora := loopE true lMKL0c lMKL0T (fun a => 1000000000000)

theorem lMKL0_ok : OraOk (envX Try.prog [(13, kKnME), (14, nCellsE), (15, mltstatemake_FromE), (17, mValid1E), (19, mGet1E), (23, mPut1E)] [] 8191 8) (.block 0 (.loop (bodyIn Try.f6.body 0))) lMKL0O :=
  loop_part (envX_ok (l := [(13, kKnME), (14, nCellsE), (15, mltstatemake_FromE), (17, mValid1E), (19, mGet1E), (23, mPut1E)]) ⟨kKnM_ok, nCells_ok, mltstatemake_From_ok, mValid1_ok, mGet1_ok, mPut1_ok, trivial⟩ [] 8191 8) (loopsOk_bare (by kernel_rfl)) (fun a => by kernel_rfl)

noncomputable def lMKT (n : List Int) (t : Int) (other : Int) (v : Int) : RT (Option (Bool)) :=
  let x1 : List (Int × Int) := [(other, 0), (IntKind.u16.wrap (t + 1), 0)] ++ (nCells (n, 0) 12).1
  let x2 : Nat := List.length x1
  let x3 : Int × Int × Bool × List (Int × Int) × List (Int × Int) × List (Int × Int) × Int × Int × List Int × Int × PUnit := (t, v, false, (nCells (n, 0) 12).1, Cells.putX (Cells.normX (nCells (n, 0) 12).1) (t, v), x1, iN x2, 0, (nCells (n, 0) 12).2.1, (nCells (n, 0) 12).2.2, ())
  let x4 : Option (Bool × Int × Int × Bool × List (Int × Int) × List (Int × Int) × List (Int × Int) × Int × Int × List Int × Int × PUnit) := runF true lMKL0T (fun a => 1000000000000) x3
  let x5 : Bool × Int × Int × Bool × List (Int × Int) × List (Int × Int) × List (Int × Int) × Int × Int × List Int × Int × PUnit := getO (false, x3) x4
  let x6 : Int × Int × Bool × List (Int × Int) × List (Int × Int) × List (Int × Int) × Int × Int × List Int × Int × PUnit := x5.2
  let x7 : Int × Bool × List (Int × Int) × List (Int × Int) × List (Int × Int) × Int × Int × List Int × Int × PUnit := x6.2
  let x8 : Bool × List (Int × Int) × List (Int × Int) × List (Int × Int) × Int × Int × List Int × Int × PUnit := x7.2
  let x9 : List (Int × Int) := x8.2.2.1
  let x10 : Bool := smC x9
  let x11 : Bool := !x10
  let x12 : Bool := Cells.getX x9 x6.1 == x7.1
  let x13 : Bool := !x12
  let x14 : Bool := x13 || x10
  let x15 : Bool := vldB x9
  .br (!decide (iN (List.length n) > 100) || kKnMC)
  (.br (decide (iN (List.length n) > 100))
   (.leaf (some (true)))
   (.br (nCellsC (n, 0) 12)
    (.br (smC (nCells (n, 0) 12).1)
     (.br (Nat.ble x2 most)
      (.br (okB x4)
       (.br x5.1
        (.leaf (some x8.1))
        (.br (x11 || (!x14 || (x13 || (!x15 || kKnMC))))
         (.br (x11 || x14)
          (.br (x10)
           (.leaf (some (x12 && (x15 && kKnM))))
           (.leaf none))
          (.leaf none))
         (.leaf none)))
       (.leaf none))
      (.leaf none))
     (.leaf none))
    (.leaf none)))
  (.leaf none)

noncomputable def lMK (n : List Int) (t : Int) (other : Int) (v : Int) : Bool := getO lMKRs.dflt (lMKT n t other v).val

noncomputable def lMKC (n : List Int) (t : Int) (other : Int) (v : Int) : Bool := okB (lMKT n t other v).val

noncomputable def lMKE : Entry := pureE lMKTs lMKRs (fun a => some (lMKC a.1 a.2.1 a.2.2.1 a.2.2.2)) (fun a => lMK a.1 a.2.1 a.2.2.1 a.2.2.2)

theorem lMK_ok : EntryOk Try.prog 6 lMKE :=
  pure_part (P := Try.prog) (n := 8191) (k := 8) (l := [(13, kKnME), (14, nCellsE), (15, mltstatemake_FromE), (17, mValid1E), (19, mGet1E), (23, mPut1E)]) (ol := [(0, lMKL0O)]) ⟨kKnM_ok, nCells_ok, mltstatemake_From_ok, mValid1_ok, mGet1_ok, mPut1_ok, trivial⟩ Try.func6 rfl (by kernel_rfl) Try.call6 ⟨lMKL0_ok, trivial⟩ (ts := lMKTs) (rs := lMKRs) (t := fun a => lMKT a.1 a.2.1 a.2.2.1 a.2.2.2) (fun a => by kernel_rfl)

abbrev lMETs : List Sh := [Sh.one (R.sl (R.int IntKind.i64)), Sh.one (R.int IntKind.u16), Sh.one (R.int IntKind.u16), Sh.one (R.int IntKind.u8), Sh.one (R.int IntKind.u8)]

abbrev lMERs : Rs := Rs.one (Sh.one R.bool)

noncomputable def lMET (n : List Int) (a : Int) (b : Int) (x : Int) (y : Int) : RT (Option (Bool)) :=
  let x1 : List (Int × Int) := Cells.putX (Cells.normX (Cells.putX (Cells.normX (nCells (n, 0) 12).1) (a, x))) (b, y)
  let x2 : Bool := smC x1
  let x3 : Bool := !x2
  let x4 : Bool := decide (x1 = Cells.putX (Cells.normX (nCells (n, 0) 12).1) (b, y))
  let x5 : Bool := decide (x1 = Cells.putX (Cells.normX (Cells.putX (Cells.normX (nCells (n, 0) 12).1) (b, y))) (a, x))
  .br (!decide (iN (List.length n) > 100) || kKnMC)
  (.br (decide (iN (List.length n) > 100))
   (.leaf (some (true)))
   (.br (nCellsC (n, 0) 12)
    (.br (!smC (nCells (n, 0) 12).1 || (!smC (Cells.putX (Cells.normX (nCells (n, 0) 12).1) (a, x)) || (!smC (nCells (n, 0) 12).1 || smC (Cells.putX (Cells.normX (nCells (n, 0) 12).1) (b, y)))))
     (.br (!smC (nCells (n, 0) 12).1 || (!smC (Cells.putX (Cells.normX (nCells (n, 0) 12).1) (a, x)) || smC (nCells (n, 0) 12).1))
      (.br (!smC (nCells (n, 0) 12).1 || smC (Cells.putX (Cells.normX (nCells (n, 0) 12).1) (a, x)))
       (.br (smC (nCells (n, 0) 12).1)
        (.br (!a == b || (!smC (nCells (n, 0) 12).1 || (x3 || (!x4 || kKnMC))))
         (.br (!a == b || (!smC (nCells (n, 0) 12).1 || x2))
          (.br (!a == b || smC (nCells (n, 0) 12).1)
           (.br (a == b)
            (.leaf (some (x4 && kKnM)))
            (.br (x3 || (!x5 || kKnMC))
             (.br (x2)
              (.leaf (some (x5 && kKnM)))
              (.leaf none))
             (.leaf none)))
           (.leaf none))
          (.leaf none))
         (.leaf none))
        (.leaf none))
       (.leaf none))
      (.leaf none))
     (.leaf none))
    (.leaf none)))
  (.leaf none)

noncomputable def lME (n : List Int) (a : Int) (b : Int) (x : Int) (y : Int) : Bool := getO lMERs.dflt (lMET n a b x y).val

noncomputable def lMEC (n : List Int) (a : Int) (b : Int) (x : Int) (y : Int) : Bool := okB (lMET n a b x y).val

noncomputable def lMEE : Entry := pureE lMETs lMERs (fun a => some (lMEC a.1 a.2.1 a.2.2.1 a.2.2.2.1 a.2.2.2.2)) (fun a => lME a.1 a.2.1 a.2.2.1 a.2.2.2.1 a.2.2.2.2)

theorem lME_ok : EntryOk Try.prog 7 lMEE :=
  pure_part (P := Try.prog) (n := 16383) (k := 8) (l := [(13, kKnME), (14, nCellsE), (15, mltstatemake_FromE), (21, rSameM1E), (23, mPut1E)]) (ol := []) ⟨kKnM_ok, nCells_ok, mltstatemake_From_ok, rSameM1_ok, mPut1_ok, trivial⟩ Try.func7 rfl (by kernel_rfl) Try.call7 trivial (ts := lMETs) (rs := lMERs) (t := fun a => lMET a.1 a.2.1 a.2.2.1 a.2.2.2.1 a.2.2.2.2) (fun a => by kernel_rfl)

abbrev kKnRTs : List Sh := []

abbrev kKnRRs : Rs := Rs.one (Sh.one R.bool)

noncomputable def kKnRT : RT (Option (Bool)) :=
  let x1 : List (Int × Int × Bool × Int) := [(0, 4095, false, 0), (4096, 8191, true, 2)]
  let x2 : Bool := smG x1
  let x3 : Bool := x2 && smC []
  let x4 : Bool := !x3
  let x5 : Bool := !iN (List.length (writeMX x1 [] 0 7)) == 0
  let x6 : List (Int × Int) := writeMX x1 [] 4096 7
  let x7 : Bool := x2 && smC x6
  let x8 : Bool := x5 || x7
  let x9 : Bool := !x8
  let x10 : Bool := !readMX x1 x6 4096 == 7
  let x11 : Bool := x5 || (x10 || x7)
  .br (x3)
  (.br (x4 || (x9 || (!x11 || (x5 || (x10 || (!readMX x1 x6 8192 == 255 || x2))))))
   (.br (x4 || (x9 || x11))
    (.br (x4 || x8)
     (.br (x3)
      (.leaf (some (true)))
      (.leaf none))
     (.leaf none))
    (.leaf none))
   (.leaf none))
  (.leaf none)

noncomputable def kKnR : Bool := getO kKnRRs.dflt (kKnRT ).val

noncomputable def kKnRC : Bool := okB (kKnRT ).val

noncomputable def kKnRE : Entry := pureE kKnRTs kKnRRs (fun a => some (kKnRC )) (fun a => kKnR )

theorem kKnR_ok : EntryOk Try.prog 27 kKnRE :=
  pure_part (P := Try.prog) (n := 7) (k := 8) (l := [(32, pReadM1E), (34, pWaitsR1E), (36, pWriteM1E)]) (ol := []) ⟨pReadM1_ok, pWaitsR1_ok, pWriteM1_ok, trivial⟩ Try.func27 rfl (by kernel_rfl) Try.call27 trivial (ts := kKnRTs) (rs := kKnRRs) (t := fun a => kKnRT ) (fun a => by kernel_rfl)

abbrev lRRTs : List Sh := [Sh.one (R.sl (R.pair (R.int IntKind.u16) (R.pair (R.int IntKind.u16) (R.pair R.bool (R.int IntKind.i64))))), Sh.one (R.sl (R.pair (R.int IntKind.u16) (R.int IntKind.u8))), Sh.one (R.sl (R.int IntKind.i64)), Sh.one (R.int IntKind.u16)]

abbrev lRRRs : Rs := Rs.one (Sh.one R.bool)

noncomputable def lRRT (l : List (Int × Int × Bool × Int)) (c : List (Int × Int)) (n : List Int) (t : Int) : RT (Option (Bool)) :=
  let x1 : Bool := decide (iN (List.length l) > 40) || (decide (iN (List.length c) > 60) || decide (iN (List.length n) > 100))
  let x2 : Bool := !(findX l t != findX l t || smG l && smC c)
  let x3 : Bool := findX l t != findX l t || (readMX l c t != readMX l c t || smG l)
  let x4 : Bool := !smG l || (!smG l || (x2 || (x2 || (!x3 || x3))))
  let x5 : Bool := !x4
  let x6 : Bool := !smG l || (!smG l || (x2 || (x2 || x3)))
  let x7 : Bool := !x6
  let x8 : Bool := !smG l || (!smG l || (x2 || (findX l t != findX l t || smG l && smC c)))
  let x9 : Bool := !x8
  let x10 : Bool := !smG l || (!smG l || (findX l t != findX l t || smG l && smC c))
  let x11 : Bool := !x10
  let x12 : Bool := x5 || (x7 || (x9 || (x11 || (!(!smG l || smG l) || smG l))))
  let x13 : Bool := !x12
  let x14 : Bool := x5 || (x7 || (x9 || (x11 || (!smG l || smG l))))
  let x15 : Bool := !x14
  let x16 : Bool := x5 || (x7 || (x9 || x10))
  let x17 : Bool := !x16
  let x18 : Bool := x5 || (x7 || x8)
  let x19 : Bool := !x18
  let x20 : Bool := x5 || x6
  let x21 : Bool := !x20
  let x22 : Bool := findX l t != findX l t || (readMX l c t != readMX l c t || waitsX l t != waitsX l t)
  let x23 : Bool := findX l (nWord (nCells (nRegionsB (n, 0) 6).2 10).2).1 != findX l (nWord (nCells (nRegionsB (n, 0) 6).2 10).2).1
  let x24 : Bool := x23 || smG l && smC c
  let x25 : Bool := !x24
  let x26 : Int := readMX l c (nWord (nCells (nRegionsB (n, 0) 6).2 10).2).1
  let x27 : Bool := x26 != x26
  let x28 : Bool := x23 || (x27 || smG l)
  let x29 : Bool := !smG l || (!smG l || (x25 || (x25 || (!x28 || x28))))
  let x30 : Bool := !x29
  let x31 : Bool := !smG l || (!smG l || (x25 || (x25 || x28)))
  let x32 : Bool := !x31
  let x33 : Bool := !smG l || (!smG l || (x25 || x24))
  let x34 : Bool := !x33
  let x35 : Bool := !smG l || (!smG l || x24)
  let x36 : Bool := !x35
  let x37 : Bool := x30 || (x32 || (x34 || (x36 || (!(!smG l || smG l) || smG l))))
  let x38 : Bool := !x37
  let x39 : Bool := x30 || (x32 || (x34 || (x36 || (!smG l || smG l))))
  let x40 : Bool := !x39
  let x41 : Bool := x30 || (x32 || (x34 || x35))
  let x42 : Bool := !x41
  let x43 : Bool := x30 || (x32 || x33)
  let x44 : Bool := !x43
  let x45 : Bool := x30 || x31
  let x46 : Bool := x13 || (x15 || (x17 || (x19 || (x21 || (x5 || (x22 || (x38 || (x40 || (x42 || (x44 || (!x45 || x29)))))))))))
  let x47 : Bool := !x46
  let x48 : Bool := x13 || (x15 || (x17 || (x19 || (x21 || (x5 || (x22 || (x38 || (x40 || (x42 || (x44 || x45))))))))))
  let x49 : Bool := !x48
  let x50 : Bool := x13 || (x15 || (x17 || (x19 || (x21 || (x5 || (x22 || (x38 || (x40 || (x42 || x43)))))))))
  let x51 : Bool := !x50
  let x52 : Bool := x13 || (x15 || (x17 || (x19 || (x21 || (x5 || (x22 || (x38 || (x40 || x41))))))))
  let x53 : Bool := !x52
  let x54 : Bool := x13 || (x15 || (x17 || (x19 || (x21 || (x5 || (x22 || (x38 || x39)))))))
  let x55 : Bool := !x54
  let x56 : Bool := x13 || (x15 || (x17 || (x19 || (x21 || (x5 || (x22 || x37))))))
  let x57 : Bool := !x56
  let x58 : Bool := x13 || (x15 || (x17 || (x19 || (x21 || x4))))
  let x59 : Bool := !x58
  let x60 : Bool := x13 || (x15 || (x17 || (x19 || x20)))
  let x61 : Bool := !x60
  let x62 : Bool := x13 || (x15 || (x17 || x18))
  let x63 : Bool := !x62
  let x64 : Bool := x13 || (x15 || x16)
  let x65 : Bool := !x64
  let x66 : Bool := x13 || x14
  let x67 : Bool := x47 || (x49 || (x51 || (x53 || (x55 || (x57 || (x59 || (x61 || (x63 || (x65 || (!x66 || x12))))))))))
  let x68 : Bool := !x67
  let x69 : Bool := x47 || (x49 || (x51 || (x53 || (x55 || (x57 || (x59 || (x61 || (x63 || (x65 || x66)))))))))
  let x70 : Bool := !x69
  let x71 : Bool := x47 || (x49 || (x51 || (x53 || (x55 || (x57 || (x59 || (x61 || (x63 || x64))))))))
  let x72 : Bool := !x71
  let x73 : Bool := x47 || (x49 || (x51 || (x53 || (x55 || (x57 || (x59 || (x61 || x62)))))))
  let x74 : Bool := !x73
  let x75 : Bool := x47 || (x49 || (x51 || (x53 || (x55 || (x57 || (x59 || x60))))))
  let x76 : Bool := !x75
  let x77 : Bool := x47 || (x49 || (x51 || (x53 || (x55 || (x57 || x58)))))
  let x78 : Bool := !x77
  let x79 : Bool := x47 || (x49 || (x51 || (x53 || (x55 || x56))))
  let x80 : Bool := !x79
  let x81 : Bool := x47 || (x49 || (x51 || (x53 || x54)))
  let x82 : Bool := !x81
  let x83 : Bool := x47 || (x49 || (x51 || x52))
  let x84 : Bool := !x83
  let x85 : Bool := x47 || (x49 || x50)
  let x86 : Bool := !x85
  let x87 : Bool := x47 || x48
  let x88 : Bool := !x87
  let x89 : Bool := waitsX l (nWord (nCells (nRegionsB (n, 0) 6).2 10).2).1 != waitsX l (nWord (nCells (nRegionsB (n, 0) 6).2 10).2).1
  let x90 : Bool := x23 || (x27 || x89)
  let x91 : Bool := findX l t != findX l t || smG l && smC (nCells (nRegionsB (n, 0) 6).2 10).1
  let x92 : Bool := !x91
  let x93 : Bool := readMX l (nCells (nRegionsB (n, 0) 6).2 10).1 t != readMX l (nCells (nRegionsB (n, 0) 6).2 10).1 t
  let x94 : Bool := findX l t != findX l t || (x93 || smG l)
  let x95 : Bool := !smG l || (!smG l || (x92 || (x92 || (!x94 || x94))))
  let x96 : Bool := !x95
  let x97 : Bool := !smG l || (!smG l || (x92 || (x92 || x94)))
  let x98 : Bool := !x97
  let x99 : Bool := !smG l || (!smG l || (x92 || x91))
  let x100 : Bool := !x99
  let x101 : Bool := !smG l || (!smG l || x91)
  let x102 : Bool := !x101
  let x103 : Bool := x96 || (x98 || (x100 || (x102 || (!(!smG l || smG l) || smG l))))
  let x104 : Bool := !x103
  let x105 : Bool := x96 || (x98 || (x100 || (x102 || (!smG l || smG l))))
  let x106 : Bool := !x105
  let x107 : Bool := x96 || (x98 || (x100 || x101))
  let x108 : Bool := !x107
  let x109 : Bool := x96 || (x98 || x99)
  let x110 : Bool := !x109
  let x111 : Bool := x96 || x97
  let x112 : Bool := !x111
  let x113 : Bool := findX l t != findX l t || (x93 || waitsX l t != waitsX l t)
  let x114 : Bool := x23 || smG l && smC (nCells (nRegionsB (n, 0) 6).2 10).1
  let x115 : Bool := !x114
  let x116 : Int := readMX l (nCells (nRegionsB (n, 0) 6).2 10).1 (nWord (nCells (nRegionsB (n, 0) 6).2 10).2).1
  let x117 : Bool := x116 != x116
  let x118 : Bool := x23 || (x117 || smG l)
  let x119 : Bool := !smG l || (!smG l || (x115 || (x115 || (!x118 || x118))))
  let x120 : Bool := !x119
  let x121 : Bool := !smG l || (!smG l || (x115 || (x115 || x118)))
  let x122 : Bool := !x121
  let x123 : Bool := !smG l || (!smG l || (x115 || x114))
  let x124 : Bool := !x123
  let x125 : Bool := !smG l || (!smG l || x114)
  let x126 : Bool := !x125
  let x127 : Bool := x120 || (x122 || (x124 || (x126 || (!(!smG l || smG l) || smG l))))
  let x128 : Bool := !x127
  let x129 : Bool := x120 || (x122 || (x124 || (x126 || (!smG l || smG l))))
  let x130 : Bool := !x129
  let x131 : Bool := x120 || (x122 || (x124 || x125))
  let x132 : Bool := !x131
  let x133 : Bool := x120 || (x122 || x123)
  let x134 : Bool := !x133
  let x135 : Bool := x120 || x121
  let x136 : Bool := x104 || (x106 || (x108 || (x110 || (x112 || (x96 || (x113 || (x128 || (x130 || (x132 || (x134 || (!x135 || x119)))))))))))
  let x137 : Bool := !x136
  let x138 : Bool := x104 || (x106 || (x108 || (x110 || (x112 || (x96 || (x113 || (x128 || (x130 || (x132 || (x134 || x135))))))))))
  let x139 : Bool := !x138
  let x140 : Bool := x104 || (x106 || (x108 || (x110 || (x112 || (x96 || (x113 || (x128 || (x130 || (x132 || x133)))))))))
  let x141 : Bool := !x140
  let x142 : Bool := x104 || (x106 || (x108 || (x110 || (x112 || (x96 || (x113 || (x128 || (x130 || x131))))))))
  let x143 : Bool := !x142
  let x144 : Bool := x104 || (x106 || (x108 || (x110 || (x112 || (x96 || (x113 || (x128 || x129)))))))
  let x145 : Bool := !x144
  let x146 : Bool := x104 || (x106 || (x108 || (x110 || (x112 || (x96 || (x113 || x127))))))
  let x147 : Bool := !x146
  let x148 : Bool := x104 || (x106 || (x108 || (x110 || (x112 || x95))))
  let x149 : Bool := !x148
  let x150 : Bool := x104 || (x106 || (x108 || (x110 || x111)))
  let x151 : Bool := !x150
  let x152 : Bool := x104 || (x106 || (x108 || x109))
  let x153 : Bool := !x152
  let x154 : Bool := x104 || (x106 || x107)
  let x155 : Bool := !x154
  let x156 : Bool := x104 || x105
  let x157 : Bool := x137 || (x139 || (x141 || (x143 || (x145 || (x147 || (x149 || (x151 || (x153 || (x155 || (!x156 || x103))))))))))
  let x158 : Bool := !x157
  let x159 : Bool := x137 || (x139 || (x141 || (x143 || (x145 || (x147 || (x149 || (x151 || (x153 || (x155 || x156)))))))))
  let x160 : Bool := !x159
  let x161 : Bool := x137 || (x139 || (x141 || (x143 || (x145 || (x147 || (x149 || (x151 || (x153 || x154))))))))
  let x162 : Bool := !x161
  let x163 : Bool := x137 || (x139 || (x141 || (x143 || (x145 || (x147 || (x149 || (x151 || x152)))))))
  let x164 : Bool := !x163
  let x165 : Bool := x137 || (x139 || (x141 || (x143 || (x145 || (x147 || (x149 || x150))))))
  let x166 : Bool := !x165
  let x167 : Bool := x137 || (x139 || (x141 || (x143 || (x145 || (x147 || x148)))))
  let x168 : Bool := !x167
  let x169 : Bool := x137 || (x139 || (x141 || (x143 || (x145 || x146))))
  let x170 : Bool := !x169
  let x171 : Bool := x137 || (x139 || (x141 || (x143 || x144)))
  let x172 : Bool := !x171
  let x173 : Bool := x137 || (x139 || (x141 || x142))
  let x174 : Bool := !x173
  let x175 : Bool := x137 || (x139 || x140)
  let x176 : Bool := !x175
  let x177 : Bool := x137 || x138
  let x178 : Bool := x68 || (x70 || (x72 || (x74 || (x76 || (x78 || (x80 || (x82 || (x84 || (x86 || (x88 || (x47 || (x22 || (x90 || (x158 || (x160 || (x162 || (x164 || (x166 || (x168 || (x170 || (x172 || (x174 || (x176 || (!x177 || x136))))))))))))))))))))))))
  let x179 : Bool := !x178
  let x180 : Bool := x68 || (x70 || (x72 || (x74 || (x76 || (x78 || (x80 || (x82 || (x84 || (x86 || (x88 || (x47 || (x22 || (x90 || (x158 || (x160 || (x162 || (x164 || (x166 || (x168 || (x170 || (x172 || (x174 || (x176 || x177)))))))))))))))))))))))
  let x181 : Bool := !x180
  let x182 : Bool := x68 || (x70 || (x72 || (x74 || (x76 || (x78 || (x80 || (x82 || (x84 || (x86 || (x88 || (x47 || (x22 || (x90 || (x158 || (x160 || (x162 || (x164 || (x166 || (x168 || (x170 || (x172 || (x174 || x175))))))))))))))))))))))
  let x183 : Bool := !x182
  let x184 : Bool := x68 || (x70 || (x72 || (x74 || (x76 || (x78 || (x80 || (x82 || (x84 || (x86 || (x88 || (x47 || (x22 || (x90 || (x158 || (x160 || (x162 || (x164 || (x166 || (x168 || (x170 || (x172 || x173)))))))))))))))))))))
  let x185 : Bool := !x184
  let x186 : Bool := x68 || (x70 || (x72 || (x74 || (x76 || (x78 || (x80 || (x82 || (x84 || (x86 || (x88 || (x47 || (x22 || (x90 || (x158 || (x160 || (x162 || (x164 || (x166 || (x168 || (x170 || x171))))))))))))))))))))
  let x187 : Bool := !x186
  let x188 : Bool := x68 || (x70 || (x72 || (x74 || (x76 || (x78 || (x80 || (x82 || (x84 || (x86 || (x88 || (x47 || (x22 || (x90 || (x158 || (x160 || (x162 || (x164 || (x166 || (x168 || x169)))))))))))))))))))
  let x189 : Bool := !x188
  let x190 : Bool := x68 || (x70 || (x72 || (x74 || (x76 || (x78 || (x80 || (x82 || (x84 || (x86 || (x88 || (x47 || (x22 || (x90 || (x158 || (x160 || (x162 || (x164 || (x166 || x167))))))))))))))))))
  let x191 : Bool := !x190
  let x192 : Bool := x68 || (x70 || (x72 || (x74 || (x76 || (x78 || (x80 || (x82 || (x84 || (x86 || (x88 || (x47 || (x22 || (x90 || (x158 || (x160 || (x162 || (x164 || x165)))))))))))))))))
  let x193 : Bool := !x192
  let x194 : Bool := x68 || (x70 || (x72 || (x74 || (x76 || (x78 || (x80 || (x82 || (x84 || (x86 || (x88 || (x47 || (x22 || (x90 || (x158 || (x160 || (x162 || x163))))))))))))))))
  let x195 : Bool := !x194
  let x196 : Bool := x68 || (x70 || (x72 || (x74 || (x76 || (x78 || (x80 || (x82 || (x84 || (x86 || (x88 || (x47 || (x22 || (x90 || (x158 || (x160 || x161)))))))))))))))
  let x197 : Bool := !x196
  let x198 : Bool := x68 || (x70 || (x72 || (x74 || (x76 || (x78 || (x80 || (x82 || (x84 || (x86 || (x88 || (x47 || (x22 || (x90 || (x158 || x159))))))))))))))
  let x199 : Bool := !x198
  let x200 : Bool := x68 || (x70 || (x72 || (x74 || (x76 || (x78 || (x80 || (x82 || (x84 || (x86 || (x88 || (x47 || (x22 || (x90 || x157)))))))))))))
  let x201 : Bool := !x200
  let x202 : Bool := x68 || (x70 || (x72 || (x74 || (x76 || (x78 || (x80 || (x82 || (x84 || (x86 || (x88 || x46))))))))))
  let x203 : Bool := !x202
  let x204 : Bool := x68 || (x70 || (x72 || (x74 || (x76 || (x78 || (x80 || (x82 || (x84 || (x86 || x87)))))))))
  let x205 : Bool := !x204
  let x206 : Bool := x68 || (x70 || (x72 || (x74 || (x76 || (x78 || (x80 || (x82 || (x84 || x85))))))))
  let x207 : Bool := !x206
  let x208 : Bool := x68 || (x70 || (x72 || (x74 || (x76 || (x78 || (x80 || (x82 || x83)))))))
  let x209 : Bool := !x208
  let x210 : Bool := x68 || (x70 || (x72 || (x74 || (x76 || (x78 || (x80 || x81))))))
  let x211 : Bool := !x210
  let x212 : Bool := x68 || (x70 || (x72 || (x74 || (x76 || (x78 || x79)))))
  let x213 : Bool := !x212
  let x214 : Bool := x68 || (x70 || (x72 || (x74 || (x76 || x77))))
  let x215 : Bool := !x214
  let x216 : Bool := x68 || (x70 || (x72 || (x74 || x75)))
  let x217 : Bool := !x216
  let x218 : Bool := x68 || (x70 || (x72 || x73))
  let x219 : Bool := !x218
  let x220 : Bool := x68 || (x70 || x71)
  let x221 : Bool := !x220
  let x222 : Bool := x68 || x69
  let x223 : Bool := x179 || (x181 || (x183 || (x185 || (x187 || (x189 || (x191 || (x193 || (x195 || (x197 || (x199 || (x201 || (x203 || (x205 || (x207 || (x209 || (x211 || (x213 || (x215 || (x217 || (x219 || (x221 || (!x222 || x67))))))))))))))))))))))
  let x224 : Bool := !x223
  let x225 : Bool := x179 || (x181 || (x183 || (x185 || (x187 || (x189 || (x191 || (x193 || (x195 || (x197 || (x199 || (x201 || (x203 || (x205 || (x207 || (x209 || (x211 || (x213 || (x215 || (x217 || (x219 || (x221 || x222)))))))))))))))))))))
  let x226 : Bool := !x225
  let x227 : Bool := x179 || (x181 || (x183 || (x185 || (x187 || (x189 || (x191 || (x193 || (x195 || (x197 || (x199 || (x201 || (x203 || (x205 || (x207 || (x209 || (x211 || (x213 || (x215 || (x217 || (x219 || x220))))))))))))))))))))
  let x228 : Bool := !x227
  let x229 : Bool := x179 || (x181 || (x183 || (x185 || (x187 || (x189 || (x191 || (x193 || (x195 || (x197 || (x199 || (x201 || (x203 || (x205 || (x207 || (x209 || (x211 || (x213 || (x215 || (x217 || x218)))))))))))))))))))
  let x230 : Bool := !x229
  let x231 : Bool := x179 || (x181 || (x183 || (x185 || (x187 || (x189 || (x191 || (x193 || (x195 || (x197 || (x199 || (x201 || (x203 || (x205 || (x207 || (x209 || (x211 || (x213 || (x215 || x216))))))))))))))))))
  let x232 : Bool := !x231
  let x233 : Bool := x179 || (x181 || (x183 || (x185 || (x187 || (x189 || (x191 || (x193 || (x195 || (x197 || (x199 || (x201 || (x203 || (x205 || (x207 || (x209 || (x211 || (x213 || x214)))))))))))))))))
  let x234 : Bool := !x233
  let x235 : Bool := x179 || (x181 || (x183 || (x185 || (x187 || (x189 || (x191 || (x193 || (x195 || (x197 || (x199 || (x201 || (x203 || (x205 || (x207 || (x209 || (x211 || x212))))))))))))))))
  let x236 : Bool := !x235
  let x237 : Bool := x179 || (x181 || (x183 || (x185 || (x187 || (x189 || (x191 || (x193 || (x195 || (x197 || (x199 || (x201 || (x203 || (x205 || (x207 || (x209 || x210)))))))))))))))
  let x238 : Bool := !x237
  let x239 : Bool := x179 || (x181 || (x183 || (x185 || (x187 || (x189 || (x191 || (x193 || (x195 || (x197 || (x199 || (x201 || (x203 || (x205 || (x207 || x208))))))))))))))
  let x240 : Bool := !x239
  let x241 : Bool := x179 || (x181 || (x183 || (x185 || (x187 || (x189 || (x191 || (x193 || (x195 || (x197 || (x199 || (x201 || (x203 || (x205 || x206)))))))))))))
  let x242 : Bool := !x241
  let x243 : Bool := x179 || (x181 || (x183 || (x185 || (x187 || (x189 || (x191 || (x193 || (x195 || (x197 || (x199 || (x201 || (x203 || x204))))))))))))
  let x244 : Bool := !x243
  let x245 : Bool := x179 || (x181 || (x183 || (x185 || (x187 || (x189 || (x191 || (x193 || (x195 || (x197 || (x199 || (x201 || x202)))))))))))
  let x246 : Bool := !x245
  let x247 : Bool := x179 || (x181 || (x183 || (x185 || (x187 || (x189 || (x191 || (x193 || (x195 || (x197 || (x199 || x200))))))))))
  let x248 : Bool := !x247
  let x249 : Bool := x179 || (x181 || (x183 || (x185 || (x187 || (x189 || (x191 || (x193 || (x195 || (x197 || x198)))))))))
  let x250 : Bool := !x249
  let x251 : Bool := x179 || (x181 || (x183 || (x185 || (x187 || (x189 || (x191 || (x193 || (x195 || x196))))))))
  let x252 : Bool := !x251
  let x253 : Bool := x179 || (x181 || (x183 || (x185 || (x187 || (x189 || (x191 || (x193 || x194)))))))
  let x254 : Bool := !x253
  let x255 : Bool := x179 || (x181 || (x183 || (x185 || (x187 || (x189 || (x191 || x192))))))
  let x256 : Bool := !x255
  let x257 : Bool := x179 || (x181 || (x183 || (x185 || (x187 || (x189 || x190)))))
  let x258 : Bool := !x257
  let x259 : Bool := x179 || (x181 || (x183 || (x185 || (x187 || x188))))
  let x260 : Bool := !x259
  let x261 : Bool := x179 || (x181 || (x183 || (x185 || x186)))
  let x262 : Bool := !x261
  let x263 : Bool := x179 || (x181 || (x183 || x184))
  let x264 : Bool := !x263
  let x265 : Bool := x179 || (x181 || x182)
  let x266 : Bool := !x265
  let x267 : Bool := x179 || x180
  let x268 : Bool := !x267
  let x269 : Bool := x23 || (x117 || x89)
  let x270 : Bool := findX (nRegionsB (n, 0) 6).1 t != findX (nRegionsB (n, 0) 6).1 t
  let x271 : Bool := x270 || smG (nRegionsB (n, 0) 6).1 && smC c
  let x272 : Bool := !x271
  let x273 : Bool := readMX (nRegionsB (n, 0) 6).1 c t != readMX (nRegionsB (n, 0) 6).1 c t
  let x274 : Bool := x270 || (x273 || smG (nRegionsB (n, 0) 6).1)
  let x275 : Bool := !smG (nRegionsB (n, 0) 6).1 || (!smG (nRegionsB (n, 0) 6).1 || (x272 || (x272 || (!x274 || x274))))
  let x276 : Bool := !x275
  let x277 : Bool := !smG (nRegionsB (n, 0) 6).1 || (!smG (nRegionsB (n, 0) 6).1 || (x272 || (x272 || x274)))
  let x278 : Bool := !x277
  let x279 : Bool := !smG (nRegionsB (n, 0) 6).1 || (!smG (nRegionsB (n, 0) 6).1 || (x272 || x271))
  let x280 : Bool := !x279
  let x281 : Bool := !smG (nRegionsB (n, 0) 6).1 || (!smG (nRegionsB (n, 0) 6).1 || x271)
  let x282 : Bool := !x281
  let x283 : Bool := !smG (nRegionsB (n, 0) 6).1 || smG (nRegionsB (n, 0) 6).1
  let x284 : Bool := !x283 || smG (nRegionsB (n, 0) 6).1
  let x285 : Bool := x276 || (x278 || (x280 || (x282 || x284)))
  let x286 : Bool := !x285
  let x287 : Bool := x276 || (x278 || (x280 || (x282 || x283)))
  let x288 : Bool := !x287
  let x289 : Bool := x276 || (x278 || (x280 || x281))
  let x290 : Bool := !x289
  let x291 : Bool := x276 || (x278 || x279)
  let x292 : Bool := !x291
  let x293 : Bool := x276 || x277
  let x294 : Bool := !x293
  let x295 : Bool := waitsX (nRegionsB (n, 0) 6).1 t != waitsX (nRegionsB (n, 0) 6).1 t
  let x296 : Bool := x270 || (x273 || x295)
  let x297 : Int := findX (nRegionsB (n, 0) 6).1 (nWord (nCells (nRegionsB (n, 0) 6).2 10).2).1
  let x298 : Bool := x297 != x297
  let x299 : Bool := x298 || smG (nRegionsB (n, 0) 6).1 && smC c
  let x300 : Bool := !x299
  let x301 : Int := readMX (nRegionsB (n, 0) 6).1 c (nWord (nCells (nRegionsB (n, 0) 6).2 10).2).1
  let x302 : Bool := x301 != x301
  let x303 : Bool := x298 || (x302 || smG (nRegionsB (n, 0) 6).1)
  let x304 : Bool := !smG (nRegionsB (n, 0) 6).1 || (!smG (nRegionsB (n, 0) 6).1 || (x300 || (x300 || (!x303 || x303))))
  let x305 : Bool := !x304
  let x306 : Bool := !smG (nRegionsB (n, 0) 6).1 || (!smG (nRegionsB (n, 0) 6).1 || (x300 || (x300 || x303)))
  let x307 : Bool := !x306
  let x308 : Bool := !smG (nRegionsB (n, 0) 6).1 || (!smG (nRegionsB (n, 0) 6).1 || (x300 || x299))
  let x309 : Bool := !x308
  let x310 : Bool := !smG (nRegionsB (n, 0) 6).1 || (!smG (nRegionsB (n, 0) 6).1 || x299)
  let x311 : Bool := !x310
  let x312 : Bool := x305 || (x307 || (x309 || (x311 || x284)))
  let x313 : Bool := !x312
  let x314 : Bool := x305 || (x307 || (x309 || (x311 || x283)))
  let x315 : Bool := !x314
  let x316 : Bool := x305 || (x307 || (x309 || x310))
  let x317 : Bool := !x316
  let x318 : Bool := x305 || (x307 || x308)
  let x319 : Bool := !x318
  let x320 : Bool := x305 || x306
  let x321 : Bool := x286 || (x288 || (x290 || (x292 || (x294 || (x276 || (x296 || (x313 || (x315 || (x317 || (x319 || (!x320 || x304)))))))))))
  let x322 : Bool := !x321
  let x323 : Bool := x286 || (x288 || (x290 || (x292 || (x294 || (x276 || (x296 || (x313 || (x315 || (x317 || (x319 || x320))))))))))
  let x324 : Bool := !x323
  let x325 : Bool := x286 || (x288 || (x290 || (x292 || (x294 || (x276 || (x296 || (x313 || (x315 || (x317 || x318)))))))))
  let x326 : Bool := !x325
  let x327 : Bool := x286 || (x288 || (x290 || (x292 || (x294 || (x276 || (x296 || (x313 || (x315 || x316))))))))
  let x328 : Bool := !x327
  let x329 : Bool := x286 || (x288 || (x290 || (x292 || (x294 || (x276 || (x296 || (x313 || x314)))))))
  let x330 : Bool := !x329
  let x331 : Bool := x286 || (x288 || (x290 || (x292 || (x294 || (x276 || (x296 || x312))))))
  let x332 : Bool := !x331
  let x333 : Bool := x286 || (x288 || (x290 || (x292 || (x294 || x275))))
  let x334 : Bool := !x333
  let x335 : Bool := x286 || (x288 || (x290 || (x292 || x293)))
  let x336 : Bool := !x335
  let x337 : Bool := x286 || (x288 || (x290 || x291))
  let x338 : Bool := !x337
  let x339 : Bool := x286 || (x288 || x289)
  let x340 : Bool := !x339
  let x341 : Bool := x286 || x287
  let x342 : Bool := x322 || (x324 || (x326 || (x328 || (x330 || (x332 || (x334 || (x336 || (x338 || (x340 || (!x341 || x285))))))))))
  let x343 : Bool := !x342
  let x344 : Bool := x322 || (x324 || (x326 || (x328 || (x330 || (x332 || (x334 || (x336 || (x338 || (x340 || x341)))))))))
  let x345 : Bool := !x344
  let x346 : Bool := x322 || (x324 || (x326 || (x328 || (x330 || (x332 || (x334 || (x336 || (x338 || x339))))))))
  let x347 : Bool := !x346
  let x348 : Bool := x322 || (x324 || (x326 || (x328 || (x330 || (x332 || (x334 || (x336 || x337)))))))
  let x349 : Bool := !x348
  let x350 : Bool := x322 || (x324 || (x326 || (x328 || (x330 || (x332 || (x334 || x335))))))
  let x351 : Bool := !x350
  let x352 : Bool := x322 || (x324 || (x326 || (x328 || (x330 || (x332 || x333)))))
  let x353 : Bool := !x352
  let x354 : Bool := x322 || (x324 || (x326 || (x328 || (x330 || x331))))
  let x355 : Bool := !x354
  let x356 : Bool := x322 || (x324 || (x326 || (x328 || x329)))
  let x357 : Bool := !x356
  let x358 : Bool := x322 || (x324 || (x326 || x327))
  let x359 : Bool := !x358
  let x360 : Bool := x322 || (x324 || x325)
  let x361 : Bool := !x360
  let x362 : Bool := x322 || x323
  let x363 : Bool := !x362
  let x364 : Int := waitsX (nRegionsB (n, 0) 6).1 (nWord (nCells (nRegionsB (n, 0) 6).2 10).2).1
  let x365 : Bool := x364 != x364
  let x366 : Bool := x298 || (x302 || x365)
  let x367 : Bool := smG (nRegionsB (n, 0) 6).1 && smC (nCells (nRegionsB (n, 0) 6).2 10).1
  let x368 : Bool := x270 || x367
  let x369 : Bool := !x368
  let x370 : Int := readMX (nRegionsB (n, 0) 6).1 (nCells (nRegionsB (n, 0) 6).2 10).1 t
  let x371 : Bool := x370 != x370
  let x372 : Bool := x270 || (x371 || smG (nRegionsB (n, 0) 6).1)
  let x373 : Bool := !smG (nRegionsB (n, 0) 6).1 || (!smG (nRegionsB (n, 0) 6).1 || (x369 || (x369 || (!x372 || x372))))
  let x374 : Bool := !x373
  let x375 : Bool := !smG (nRegionsB (n, 0) 6).1 || (!smG (nRegionsB (n, 0) 6).1 || (x369 || (x369 || x372)))
  let x376 : Bool := !x375
  let x377 : Bool := !smG (nRegionsB (n, 0) 6).1 || (!smG (nRegionsB (n, 0) 6).1 || (x369 || x368))
  let x378 : Bool := !x377
  let x379 : Bool := !smG (nRegionsB (n, 0) 6).1 || (!smG (nRegionsB (n, 0) 6).1 || x368)
  let x380 : Bool := !x379
  let x381 : Bool := x374 || (x376 || (x378 || (x380 || x284)))
  let x382 : Bool := !x381
  let x383 : Bool := x374 || (x376 || (x378 || (x380 || x283)))
  let x384 : Bool := !x383
  let x385 : Bool := x374 || (x376 || (x378 || x379))
  let x386 : Bool := !x385
  let x387 : Bool := x374 || (x376 || x377)
  let x388 : Bool := !x387
  let x389 : Bool := x374 || x375
  let x390 : Bool := !x389
  let x391 : Bool := x270 || (x371 || x295)
  let x392 : Bool := x298 || x367
  let x393 : Bool := !x392
  let x394 : Int := readMX (nRegionsB (n, 0) 6).1 (nCells (nRegionsB (n, 0) 6).2 10).1 (nWord (nCells (nRegionsB (n, 0) 6).2 10).2).1
  let x395 : Bool := x394 != x394
  let x396 : Bool := x298 || (x395 || smG (nRegionsB (n, 0) 6).1)
  let x397 : Bool := !smG (nRegionsB (n, 0) 6).1 || (!smG (nRegionsB (n, 0) 6).1 || (x393 || (x393 || (!x396 || x396))))
  let x398 : Bool := !x397
  let x399 : Bool := !smG (nRegionsB (n, 0) 6).1 || (!smG (nRegionsB (n, 0) 6).1 || (x393 || (x393 || x396)))
  let x400 : Bool := !x399
  let x401 : Bool := !smG (nRegionsB (n, 0) 6).1 || (!smG (nRegionsB (n, 0) 6).1 || (x393 || x392))
  let x402 : Bool := !x401
  let x403 : Bool := !smG (nRegionsB (n, 0) 6).1 || (!smG (nRegionsB (n, 0) 6).1 || x392)
  let x404 : Bool := !x403
  let x405 : Bool := x398 || (x400 || (x402 || (x404 || x284)))
  let x406 : Bool := !x405
  let x407 : Bool := x398 || (x400 || (x402 || (x404 || x283)))
  let x408 : Bool := !x407
  let x409 : Bool := x398 || (x400 || (x402 || x403))
  let x410 : Bool := !x409
  let x411 : Bool := x398 || (x400 || x401)
  let x412 : Bool := !x411
  let x413 : Bool := x398 || x399
  let x414 : Bool := x382 || (x384 || (x386 || (x388 || (x390 || (x374 || (x391 || (x406 || (x408 || (x410 || (x412 || (!x413 || x397)))))))))))
  let x415 : Bool := !x414
  let x416 : Bool := x382 || (x384 || (x386 || (x388 || (x390 || (x374 || (x391 || (x406 || (x408 || (x410 || (x412 || x413))))))))))
  let x417 : Bool := !x416
  let x418 : Bool := x382 || (x384 || (x386 || (x388 || (x390 || (x374 || (x391 || (x406 || (x408 || (x410 || x411)))))))))
  let x419 : Bool := !x418
  let x420 : Bool := x382 || (x384 || (x386 || (x388 || (x390 || (x374 || (x391 || (x406 || (x408 || x409))))))))
  let x421 : Bool := !x420
  let x422 : Bool := x382 || (x384 || (x386 || (x388 || (x390 || (x374 || (x391 || (x406 || x407)))))))
  let x423 : Bool := !x422
  let x424 : Bool := x382 || (x384 || (x386 || (x388 || (x390 || (x374 || (x391 || x405))))))
  let x425 : Bool := !x424
  let x426 : Bool := x382 || (x384 || (x386 || (x388 || (x390 || x373))))
  let x427 : Bool := !x426
  let x428 : Bool := x382 || (x384 || (x386 || (x388 || x389)))
  let x429 : Bool := !x428
  let x430 : Bool := x382 || (x384 || (x386 || x387))
  let x431 : Bool := !x430
  let x432 : Bool := x382 || (x384 || x385)
  let x433 : Bool := !x432
  let x434 : Bool := x382 || x383
  let x435 : Bool := x415 || (x417 || (x419 || (x421 || (x423 || (x425 || (x427 || (x429 || (x431 || (x433 || (!x434 || x381))))))))))
  let x436 : Bool := !x435
  let x437 : Bool := x415 || (x417 || (x419 || (x421 || (x423 || (x425 || (x427 || (x429 || (x431 || (x433 || x434)))))))))
  let x438 : Bool := !x437
  let x439 : Bool := x415 || (x417 || (x419 || (x421 || (x423 || (x425 || (x427 || (x429 || (x431 || x432))))))))
  let x440 : Bool := !x439
  let x441 : Bool := x415 || (x417 || (x419 || (x421 || (x423 || (x425 || (x427 || (x429 || x430)))))))
  let x442 : Bool := !x441
  let x443 : Bool := x415 || (x417 || (x419 || (x421 || (x423 || (x425 || (x427 || x428))))))
  let x444 : Bool := !x443
  let x445 : Bool := x415 || (x417 || (x419 || (x421 || (x423 || (x425 || x426)))))
  let x446 : Bool := !x445
  let x447 : Bool := x415 || (x417 || (x419 || (x421 || (x423 || x424))))
  let x448 : Bool := !x447
  let x449 : Bool := x415 || (x417 || (x419 || (x421 || x422)))
  let x450 : Bool := !x449
  let x451 : Bool := x415 || (x417 || (x419 || x420))
  let x452 : Bool := !x451
  let x453 : Bool := x415 || (x417 || x418)
  let x454 : Bool := !x453
  let x455 : Bool := x415 || x416
  let x456 : Bool := x343 || (x345 || (x347 || (x349 || (x351 || (x353 || (x355 || (x357 || (x359 || (x361 || (x363 || (x322 || (x296 || (x366 || (x436 || (x438 || (x440 || (x442 || (x444 || (x446 || (x448 || (x450 || (x452 || (x454 || (!x455 || x414))))))))))))))))))))))))
  let x457 : Bool := !x456
  let x458 : Bool := x343 || (x345 || (x347 || (x349 || (x351 || (x353 || (x355 || (x357 || (x359 || (x361 || (x363 || (x322 || (x296 || (x366 || (x436 || (x438 || (x440 || (x442 || (x444 || (x446 || (x448 || (x450 || (x452 || (x454 || x455)))))))))))))))))))))))
  let x459 : Bool := !x458
  let x460 : Bool := x343 || (x345 || (x347 || (x349 || (x351 || (x353 || (x355 || (x357 || (x359 || (x361 || (x363 || (x322 || (x296 || (x366 || (x436 || (x438 || (x440 || (x442 || (x444 || (x446 || (x448 || (x450 || (x452 || x453))))))))))))))))))))))
  let x461 : Bool := !x460
  let x462 : Bool := x343 || (x345 || (x347 || (x349 || (x351 || (x353 || (x355 || (x357 || (x359 || (x361 || (x363 || (x322 || (x296 || (x366 || (x436 || (x438 || (x440 || (x442 || (x444 || (x446 || (x448 || (x450 || x451)))))))))))))))))))))
  let x463 : Bool := !x462
  let x464 : Bool := x343 || (x345 || (x347 || (x349 || (x351 || (x353 || (x355 || (x357 || (x359 || (x361 || (x363 || (x322 || (x296 || (x366 || (x436 || (x438 || (x440 || (x442 || (x444 || (x446 || (x448 || x449))))))))))))))))))))
  let x465 : Bool := !x464
  let x466 : Bool := x343 || (x345 || (x347 || (x349 || (x351 || (x353 || (x355 || (x357 || (x359 || (x361 || (x363 || (x322 || (x296 || (x366 || (x436 || (x438 || (x440 || (x442 || (x444 || (x446 || x447)))))))))))))))))))
  let x467 : Bool := !x466
  let x468 : Bool := x343 || (x345 || (x347 || (x349 || (x351 || (x353 || (x355 || (x357 || (x359 || (x361 || (x363 || (x322 || (x296 || (x366 || (x436 || (x438 || (x440 || (x442 || (x444 || x445))))))))))))))))))
  let x469 : Bool := !x468
  let x470 : Bool := x343 || (x345 || (x347 || (x349 || (x351 || (x353 || (x355 || (x357 || (x359 || (x361 || (x363 || (x322 || (x296 || (x366 || (x436 || (x438 || (x440 || (x442 || x443)))))))))))))))))
  let x471 : Bool := !x470
  let x472 : Bool := x343 || (x345 || (x347 || (x349 || (x351 || (x353 || (x355 || (x357 || (x359 || (x361 || (x363 || (x322 || (x296 || (x366 || (x436 || (x438 || (x440 || x441))))))))))))))))
  let x473 : Bool := !x472
  let x474 : Bool := x343 || (x345 || (x347 || (x349 || (x351 || (x353 || (x355 || (x357 || (x359 || (x361 || (x363 || (x322 || (x296 || (x366 || (x436 || (x438 || x439)))))))))))))))
  let x475 : Bool := !x474
  let x476 : Bool := x343 || (x345 || (x347 || (x349 || (x351 || (x353 || (x355 || (x357 || (x359 || (x361 || (x363 || (x322 || (x296 || (x366 || (x436 || x437))))))))))))))
  let x477 : Bool := !x476
  let x478 : Bool := x343 || (x345 || (x347 || (x349 || (x351 || (x353 || (x355 || (x357 || (x359 || (x361 || (x363 || (x322 || (x296 || (x366 || x435)))))))))))))
  let x479 : Bool := !x478
  let x480 : Bool := x343 || (x345 || (x347 || (x349 || (x351 || (x353 || (x355 || (x357 || (x359 || (x361 || (x363 || x321))))))))))
  let x481 : Bool := !x480
  let x482 : Bool := x343 || (x345 || (x347 || (x349 || (x351 || (x353 || (x355 || (x357 || (x359 || (x361 || x362)))))))))
  let x483 : Bool := !x482
  let x484 : Bool := x343 || (x345 || (x347 || (x349 || (x351 || (x353 || (x355 || (x357 || (x359 || x360))))))))
  let x485 : Bool := !x484
  let x486 : Bool := x343 || (x345 || (x347 || (x349 || (x351 || (x353 || (x355 || (x357 || x358)))))))
  let x487 : Bool := !x486
  let x488 : Bool := x343 || (x345 || (x347 || (x349 || (x351 || (x353 || (x355 || x356))))))
  let x489 : Bool := !x488
  let x490 : Bool := x343 || (x345 || (x347 || (x349 || (x351 || (x353 || x354)))))
  let x491 : Bool := !x490
  let x492 : Bool := x343 || (x345 || (x347 || (x349 || (x351 || x352))))
  let x493 : Bool := !x492
  let x494 : Bool := x343 || (x345 || (x347 || (x349 || x350)))
  let x495 : Bool := !x494
  let x496 : Bool := x343 || (x345 || (x347 || x348))
  let x497 : Bool := !x496
  let x498 : Bool := x343 || (x345 || x346)
  let x499 : Bool := !x498
  let x500 : Bool := x343 || x344
  let x501 : Bool := x457 || (x459 || (x461 || (x463 || (x465 || (x467 || (x469 || (x471 || (x473 || (x475 || (x477 || (x479 || (x481 || (x483 || (x485 || (x487 || (x489 || (x491 || (x493 || (x495 || (x497 || (x499 || (!x500 || x342))))))))))))))))))))))
  let x502 : Bool := !x501
  let x503 : Bool := x457 || (x459 || (x461 || (x463 || (x465 || (x467 || (x469 || (x471 || (x473 || (x475 || (x477 || (x479 || (x481 || (x483 || (x485 || (x487 || (x489 || (x491 || (x493 || (x495 || (x497 || (x499 || x500)))))))))))))))))))))
  let x504 : Bool := !x503
  let x505 : Bool := x457 || (x459 || (x461 || (x463 || (x465 || (x467 || (x469 || (x471 || (x473 || (x475 || (x477 || (x479 || (x481 || (x483 || (x485 || (x487 || (x489 || (x491 || (x493 || (x495 || (x497 || x498))))))))))))))))))))
  let x506 : Bool := !x505
  let x507 : Bool := x457 || (x459 || (x461 || (x463 || (x465 || (x467 || (x469 || (x471 || (x473 || (x475 || (x477 || (x479 || (x481 || (x483 || (x485 || (x487 || (x489 || (x491 || (x493 || (x495 || x496)))))))))))))))))))
  let x508 : Bool := !x507
  let x509 : Bool := x457 || (x459 || (x461 || (x463 || (x465 || (x467 || (x469 || (x471 || (x473 || (x475 || (x477 || (x479 || (x481 || (x483 || (x485 || (x487 || (x489 || (x491 || (x493 || x494))))))))))))))))))
  let x510 : Bool := !x509
  let x511 : Bool := x457 || (x459 || (x461 || (x463 || (x465 || (x467 || (x469 || (x471 || (x473 || (x475 || (x477 || (x479 || (x481 || (x483 || (x485 || (x487 || (x489 || (x491 || x492)))))))))))))))))
  let x512 : Bool := !x511
  let x513 : Bool := x457 || (x459 || (x461 || (x463 || (x465 || (x467 || (x469 || (x471 || (x473 || (x475 || (x477 || (x479 || (x481 || (x483 || (x485 || (x487 || (x489 || x490))))))))))))))))
  let x514 : Bool := !x513
  let x515 : Bool := x457 || (x459 || (x461 || (x463 || (x465 || (x467 || (x469 || (x471 || (x473 || (x475 || (x477 || (x479 || (x481 || (x483 || (x485 || (x487 || x488)))))))))))))))
  let x516 : Bool := !x515
  let x517 : Bool := x457 || (x459 || (x461 || (x463 || (x465 || (x467 || (x469 || (x471 || (x473 || (x475 || (x477 || (x479 || (x481 || (x483 || (x485 || x486))))))))))))))
  let x518 : Bool := !x517
  let x519 : Bool := x457 || (x459 || (x461 || (x463 || (x465 || (x467 || (x469 || (x471 || (x473 || (x475 || (x477 || (x479 || (x481 || (x483 || x484)))))))))))))
  let x520 : Bool := !x519
  let x521 : Bool := x457 || (x459 || (x461 || (x463 || (x465 || (x467 || (x469 || (x471 || (x473 || (x475 || (x477 || (x479 || (x481 || x482))))))))))))
  let x522 : Bool := !x521
  let x523 : Bool := x457 || (x459 || (x461 || (x463 || (x465 || (x467 || (x469 || (x471 || (x473 || (x475 || (x477 || (x479 || x480)))))))))))
  let x524 : Bool := !x523
  let x525 : Bool := x457 || (x459 || (x461 || (x463 || (x465 || (x467 || (x469 || (x471 || (x473 || (x475 || (x477 || x478))))))))))
  let x526 : Bool := !x525
  let x527 : Bool := x457 || (x459 || (x461 || (x463 || (x465 || (x467 || (x469 || (x471 || (x473 || (x475 || x476)))))))))
  let x528 : Bool := !x527
  let x529 : Bool := x457 || (x459 || (x461 || (x463 || (x465 || (x467 || (x469 || (x471 || (x473 || x474))))))))
  let x530 : Bool := !x529
  let x531 : Bool := x457 || (x459 || (x461 || (x463 || (x465 || (x467 || (x469 || (x471 || x472)))))))
  let x532 : Bool := !x531
  let x533 : Bool := x457 || (x459 || (x461 || (x463 || (x465 || (x467 || (x469 || x470))))))
  let x534 : Bool := !x533
  let x535 : Bool := x457 || (x459 || (x461 || (x463 || (x465 || (x467 || x468)))))
  let x536 : Bool := !x535
  let x537 : Bool := x457 || (x459 || (x461 || (x463 || (x465 || x466))))
  let x538 : Bool := !x537
  let x539 : Bool := x457 || (x459 || (x461 || (x463 || x464)))
  let x540 : Bool := !x539
  let x541 : Bool := x457 || (x459 || (x461 || x462))
  let x542 : Bool := !x541
  let x543 : Bool := x457 || (x459 || x460)
  let x544 : Bool := !x543
  let x545 : Bool := x457 || x458
  .br (!x1 || kKnRC)
  (.br (x1)
   (.leaf (some (true)))
   (.br (!nRegionsBC (n, 0) 6 || nCellsC (nRegionsB (n, 0) 6).2 10)
    (.br (nRegionsBC (n, 0) 6)
     (.br (nWordC (nCells (nRegionsB (n, 0) 6).2 10).2)
      (.br (x224 || (x226 || (x228 || (x230 || (x232 || (x234 || (x236 || (x238 || (x240 || (x242 || (x244 || (x246 || (x248 || (x250 || (x252 || (x254 || (x256 || (x258 || (x260 || (x262 || (x264 || (x266 || (x268 || (x179 || (x22 || (x90 || (x113 || (x269 || (x502 || (x504 || (x506 || (x508 || (x510 || (x512 || (x514 || (x516 || (x518 || (x520 || (x522 || (x524 || (x526 || (x528 || (x530 || (x532 || (x534 || (x536 || (x538 || (x540 || (x542 || (x544 || (!x545 || x456)))))))))))))))))))))))))))))))))))))))))))))))))))
       (.br (x224 || (x226 || (x228 || (x230 || (x232 || (x234 || (x236 || (x238 || (x240 || (x242 || (x244 || (x246 || (x248 || (x250 || (x252 || (x254 || (x256 || (x258 || (x260 || (x262 || (x264 || (x266 || (x268 || (x179 || (x22 || (x90 || (x113 || (x269 || (x502 || (x504 || (x506 || (x508 || (x510 || (x512 || (x514 || (x516 || (x518 || (x520 || (x522 || (x524 || (x526 || (x528 || (x530 || (x532 || (x534 || (x536 || (x538 || (x540 || (x542 || (x544 || x545))))))))))))))))))))))))))))))))))))))))))))))))))
        (.br (x224 || (x226 || (x228 || (x230 || (x232 || (x234 || (x236 || (x238 || (x240 || (x242 || (x244 || (x246 || (x248 || (x250 || (x252 || (x254 || (x256 || (x258 || (x260 || (x262 || (x264 || (x266 || (x268 || (x179 || (x22 || (x90 || (x113 || (x269 || (x502 || (x504 || (x506 || (x508 || (x510 || (x512 || (x514 || (x516 || (x518 || (x520 || (x522 || (x524 || (x526 || (x528 || (x530 || (x532 || (x534 || (x536 || (x538 || (x540 || (x542 || x543)))))))))))))))))))))))))))))))))))))))))))))))))
         (.br (x224 || (x226 || (x228 || (x230 || (x232 || (x234 || (x236 || (x238 || (x240 || (x242 || (x244 || (x246 || (x248 || (x250 || (x252 || (x254 || (x256 || (x258 || (x260 || (x262 || (x264 || (x266 || (x268 || (x179 || (x22 || (x90 || (x113 || (x269 || (x502 || (x504 || (x506 || (x508 || (x510 || (x512 || (x514 || (x516 || (x518 || (x520 || (x522 || (x524 || (x526 || (x528 || (x530 || (x532 || (x534 || (x536 || (x538 || (x540 || x541))))))))))))))))))))))))))))))))))))))))))))))))
          (.br (x224 || (x226 || (x228 || (x230 || (x232 || (x234 || (x236 || (x238 || (x240 || (x242 || (x244 || (x246 || (x248 || (x250 || (x252 || (x254 || (x256 || (x258 || (x260 || (x262 || (x264 || (x266 || (x268 || (x179 || (x22 || (x90 || (x113 || (x269 || (x502 || (x504 || (x506 || (x508 || (x510 || (x512 || (x514 || (x516 || (x518 || (x520 || (x522 || (x524 || (x526 || (x528 || (x530 || (x532 || (x534 || (x536 || (x538 || x539)))))))))))))))))))))))))))))))))))))))))))))))
           (.br (x224 || (x226 || (x228 || (x230 || (x232 || (x234 || (x236 || (x238 || (x240 || (x242 || (x244 || (x246 || (x248 || (x250 || (x252 || (x254 || (x256 || (x258 || (x260 || (x262 || (x264 || (x266 || (x268 || (x179 || (x22 || (x90 || (x113 || (x269 || (x502 || (x504 || (x506 || (x508 || (x510 || (x512 || (x514 || (x516 || (x518 || (x520 || (x522 || (x524 || (x526 || (x528 || (x530 || (x532 || (x534 || (x536 || x537))))))))))))))))))))))))))))))))))))))))))))))
            (.br (x224 || (x226 || (x228 || (x230 || (x232 || (x234 || (x236 || (x238 || (x240 || (x242 || (x244 || (x246 || (x248 || (x250 || (x252 || (x254 || (x256 || (x258 || (x260 || (x262 || (x264 || (x266 || (x268 || (x179 || (x22 || (x90 || (x113 || (x269 || (x502 || (x504 || (x506 || (x508 || (x510 || (x512 || (x514 || (x516 || (x518 || (x520 || (x522 || (x524 || (x526 || (x528 || (x530 || (x532 || (x534 || x535)))))))))))))))))))))))))))))))))))))))))))))
             (.br (x224 || (x226 || (x228 || (x230 || (x232 || (x234 || (x236 || (x238 || (x240 || (x242 || (x244 || (x246 || (x248 || (x250 || (x252 || (x254 || (x256 || (x258 || (x260 || (x262 || (x264 || (x266 || (x268 || (x179 || (x22 || (x90 || (x113 || (x269 || (x502 || (x504 || (x506 || (x508 || (x510 || (x512 || (x514 || (x516 || (x518 || (x520 || (x522 || (x524 || (x526 || (x528 || (x530 || (x532 || x533))))))))))))))))))))))))))))))))))))))))))))
              (.br (x224 || (x226 || (x228 || (x230 || (x232 || (x234 || (x236 || (x238 || (x240 || (x242 || (x244 || (x246 || (x248 || (x250 || (x252 || (x254 || (x256 || (x258 || (x260 || (x262 || (x264 || (x266 || (x268 || (x179 || (x22 || (x90 || (x113 || (x269 || (x502 || (x504 || (x506 || (x508 || (x510 || (x512 || (x514 || (x516 || (x518 || (x520 || (x522 || (x524 || (x526 || (x528 || (x530 || x531)))))))))))))))))))))))))))))))))))))))))))
               (.br (x224 || (x226 || (x228 || (x230 || (x232 || (x234 || (x236 || (x238 || (x240 || (x242 || (x244 || (x246 || (x248 || (x250 || (x252 || (x254 || (x256 || (x258 || (x260 || (x262 || (x264 || (x266 || (x268 || (x179 || (x22 || (x90 || (x113 || (x269 || (x502 || (x504 || (x506 || (x508 || (x510 || (x512 || (x514 || (x516 || (x518 || (x520 || (x522 || (x524 || (x526 || (x528 || x529))))))))))))))))))))))))))))))))))))))))))
                (.br (x224 || (x226 || (x228 || (x230 || (x232 || (x234 || (x236 || (x238 || (x240 || (x242 || (x244 || (x246 || (x248 || (x250 || (x252 || (x254 || (x256 || (x258 || (x260 || (x262 || (x264 || (x266 || (x268 || (x179 || (x22 || (x90 || (x113 || (x269 || (x502 || (x504 || (x506 || (x508 || (x510 || (x512 || (x514 || (x516 || (x518 || (x520 || (x522 || (x524 || (x526 || x527)))))))))))))))))))))))))))))))))))))))))
                 (.br (x224 || (x226 || (x228 || (x230 || (x232 || (x234 || (x236 || (x238 || (x240 || (x242 || (x244 || (x246 || (x248 || (x250 || (x252 || (x254 || (x256 || (x258 || (x260 || (x262 || (x264 || (x266 || (x268 || (x179 || (x22 || (x90 || (x113 || (x269 || (x502 || (x504 || (x506 || (x508 || (x510 || (x512 || (x514 || (x516 || (x518 || (x520 || (x522 || (x524 || x525))))))))))))))))))))))))))))))))))))))))
                  (.br (x224 || (x226 || (x228 || (x230 || (x232 || (x234 || (x236 || (x238 || (x240 || (x242 || (x244 || (x246 || (x248 || (x250 || (x252 || (x254 || (x256 || (x258 || (x260 || (x262 || (x264 || (x266 || (x268 || (x179 || (x22 || (x90 || (x113 || (x269 || (x502 || (x504 || (x506 || (x508 || (x510 || (x512 || (x514 || (x516 || (x518 || (x520 || (x522 || x523)))))))))))))))))))))))))))))))))))))))
                   (.br (x224 || (x226 || (x228 || (x230 || (x232 || (x234 || (x236 || (x238 || (x240 || (x242 || (x244 || (x246 || (x248 || (x250 || (x252 || (x254 || (x256 || (x258 || (x260 || (x262 || (x264 || (x266 || (x268 || (x179 || (x22 || (x90 || (x113 || (x269 || (x502 || (x504 || (x506 || (x508 || (x510 || (x512 || (x514 || (x516 || (x518 || (x520 || x521))))))))))))))))))))))))))))))))))))))
                    (.br (x224 || (x226 || (x228 || (x230 || (x232 || (x234 || (x236 || (x238 || (x240 || (x242 || (x244 || (x246 || (x248 || (x250 || (x252 || (x254 || (x256 || (x258 || (x260 || (x262 || (x264 || (x266 || (x268 || (x179 || (x22 || (x90 || (x113 || (x269 || (x502 || (x504 || (x506 || (x508 || (x510 || (x512 || (x514 || (x516 || (x518 || x519)))))))))))))))))))))))))))))))))))))
                     (.br (x224 || (x226 || (x228 || (x230 || (x232 || (x234 || (x236 || (x238 || (x240 || (x242 || (x244 || (x246 || (x248 || (x250 || (x252 || (x254 || (x256 || (x258 || (x260 || (x262 || (x264 || (x266 || (x268 || (x179 || (x22 || (x90 || (x113 || (x269 || (x502 || (x504 || (x506 || (x508 || (x510 || (x512 || (x514 || (x516 || x517))))))))))))))))))))))))))))))))))))
                      (.br (x224 || (x226 || (x228 || (x230 || (x232 || (x234 || (x236 || (x238 || (x240 || (x242 || (x244 || (x246 || (x248 || (x250 || (x252 || (x254 || (x256 || (x258 || (x260 || (x262 || (x264 || (x266 || (x268 || (x179 || (x22 || (x90 || (x113 || (x269 || (x502 || (x504 || (x506 || (x508 || (x510 || (x512 || (x514 || x515)))))))))))))))))))))))))))))))))))
                       (.br (x224 || (x226 || (x228 || (x230 || (x232 || (x234 || (x236 || (x238 || (x240 || (x242 || (x244 || (x246 || (x248 || (x250 || (x252 || (x254 || (x256 || (x258 || (x260 || (x262 || (x264 || (x266 || (x268 || (x179 || (x22 || (x90 || (x113 || (x269 || (x502 || (x504 || (x506 || (x508 || (x510 || (x512 || x513))))))))))))))))))))))))))))))))))
                        (.br (x224 || (x226 || (x228 || (x230 || (x232 || (x234 || (x236 || (x238 || (x240 || (x242 || (x244 || (x246 || (x248 || (x250 || (x252 || (x254 || (x256 || (x258 || (x260 || (x262 || (x264 || (x266 || (x268 || (x179 || (x22 || (x90 || (x113 || (x269 || (x502 || (x504 || (x506 || (x508 || (x510 || x511)))))))))))))))))))))))))))))))))
                         (.br (x224 || (x226 || (x228 || (x230 || (x232 || (x234 || (x236 || (x238 || (x240 || (x242 || (x244 || (x246 || (x248 || (x250 || (x252 || (x254 || (x256 || (x258 || (x260 || (x262 || (x264 || (x266 || (x268 || (x179 || (x22 || (x90 || (x113 || (x269 || (x502 || (x504 || (x506 || (x508 || x509))))))))))))))))))))))))))))))))
                          (.br (x224 || (x226 || (x228 || (x230 || (x232 || (x234 || (x236 || (x238 || (x240 || (x242 || (x244 || (x246 || (x248 || (x250 || (x252 || (x254 || (x256 || (x258 || (x260 || (x262 || (x264 || (x266 || (x268 || (x179 || (x22 || (x90 || (x113 || (x269 || (x502 || (x504 || (x506 || x507)))))))))))))))))))))))))))))))
                           (.br (x224 || (x226 || (x228 || (x230 || (x232 || (x234 || (x236 || (x238 || (x240 || (x242 || (x244 || (x246 || (x248 || (x250 || (x252 || (x254 || (x256 || (x258 || (x260 || (x262 || (x264 || (x266 || (x268 || (x179 || (x22 || (x90 || (x113 || (x269 || (x502 || (x504 || x505))))))))))))))))))))))))))))))
                            (.br (x224 || (x226 || (x228 || (x230 || (x232 || (x234 || (x236 || (x238 || (x240 || (x242 || (x244 || (x246 || (x248 || (x250 || (x252 || (x254 || (x256 || (x258 || (x260 || (x262 || (x264 || (x266 || (x268 || (x179 || (x22 || (x90 || (x113 || (x269 || (x502 || x503)))))))))))))))))))))))))))))
                             (.br (x224 || (x226 || (x228 || (x230 || (x232 || (x234 || (x236 || (x238 || (x240 || (x242 || (x244 || (x246 || (x248 || (x250 || (x252 || (x254 || (x256 || (x258 || (x260 || (x262 || (x264 || (x266 || (x268 || (x179 || (x22 || (x90 || (x113 || (x269 || x501))))))))))))))))))))))))))))
                              (.br (x224 || (x226 || (x228 || (x230 || (x232 || (x234 || (x236 || (x238 || (x240 || (x242 || (x244 || (x246 || (x248 || (x250 || (x252 || (x254 || (x256 || (x258 || (x260 || (x262 || (x264 || (x266 || (x268 || x178)))))))))))))))))))))))
                               (.br (x224 || (x226 || (x228 || (x230 || (x232 || (x234 || (x236 || (x238 || (x240 || (x242 || (x244 || (x246 || (x248 || (x250 || (x252 || (x254 || (x256 || (x258 || (x260 || (x262 || (x264 || (x266 || x267))))))))))))))))))))))
                                (.br (x224 || (x226 || (x228 || (x230 || (x232 || (x234 || (x236 || (x238 || (x240 || (x242 || (x244 || (x246 || (x248 || (x250 || (x252 || (x254 || (x256 || (x258 || (x260 || (x262 || (x264 || x265)))))))))))))))))))))
                                 (.br (x224 || (x226 || (x228 || (x230 || (x232 || (x234 || (x236 || (x238 || (x240 || (x242 || (x244 || (x246 || (x248 || (x250 || (x252 || (x254 || (x256 || (x258 || (x260 || (x262 || x263))))))))))))))))))))
                                  (.br (x224 || (x226 || (x228 || (x230 || (x232 || (x234 || (x236 || (x238 || (x240 || (x242 || (x244 || (x246 || (x248 || (x250 || (x252 || (x254 || (x256 || (x258 || (x260 || x261)))))))))))))))))))
                                   (.br (x224 || (x226 || (x228 || (x230 || (x232 || (x234 || (x236 || (x238 || (x240 || (x242 || (x244 || (x246 || (x248 || (x250 || (x252 || (x254 || (x256 || (x258 || x259))))))))))))))))))
                                    (.br (x224 || (x226 || (x228 || (x230 || (x232 || (x234 || (x236 || (x238 || (x240 || (x242 || (x244 || (x246 || (x248 || (x250 || (x252 || (x254 || (x256 || x257)))))))))))))))))
                                     (.br (x224 || (x226 || (x228 || (x230 || (x232 || (x234 || (x236 || (x238 || (x240 || (x242 || (x244 || (x246 || (x248 || (x250 || (x252 || (x254 || x255))))))))))))))))
                                      (.br (x224 || (x226 || (x228 || (x230 || (x232 || (x234 || (x236 || (x238 || (x240 || (x242 || (x244 || (x246 || (x248 || (x250 || (x252 || x253)))))))))))))))
                                       (.br (x224 || (x226 || (x228 || (x230 || (x232 || (x234 || (x236 || (x238 || (x240 || (x242 || (x244 || (x246 || (x248 || (x250 || x251))))))))))))))
                                        (.br (x224 || (x226 || (x228 || (x230 || (x232 || (x234 || (x236 || (x238 || (x240 || (x242 || (x244 || (x246 || (x248 || x249)))))))))))))
                                         (.br (x224 || (x226 || (x228 || (x230 || (x232 || (x234 || (x236 || (x238 || (x240 || (x242 || (x244 || (x246 || x247))))))))))))
                                          (.br (x224 || (x226 || (x228 || (x230 || (x232 || (x234 || (x236 || (x238 || (x240 || (x242 || (x244 || x245)))))))))))
                                           (.br (x224 || (x226 || (x228 || (x230 || (x232 || (x234 || (x236 || (x238 || (x240 || (x242 || x243))))))))))
                                            (.br (x224 || (x226 || (x228 || (x230 || (x232 || (x234 || (x236 || (x238 || (x240 || x241)))))))))
                                             (.br (x224 || (x226 || (x228 || (x230 || (x232 || (x234 || (x236 || (x238 || x239))))))))
                                              (.br (x224 || (x226 || (x228 || (x230 || (x232 || (x234 || (x236 || x237)))))))
                                               (.br (x224 || (x226 || (x228 || (x230 || (x232 || (x234 || x235))))))
                                                (.br (x224 || (x226 || (x228 || (x230 || (x232 || x233)))))
                                                 (.br (x224 || (x226 || (x228 || (x230 || x231))))
                                                  (.br (x224 || (x226 || (x228 || x229)))
                                                   (.br (x224 || (x226 || x227))
                                                    (.br (x224 || x225)
                                                     (.br (x223)
                                                      (.br (x22)
                                                       (.leaf (some (false)))
                                                       (.br (x90)
                                                        (.leaf (some (false)))
                                                        (.br (x113)
                                                         (.leaf (some (false)))
                                                         (.br (x269)
                                                          (.leaf (some (false)))
                                                          (.br (x296)
                                                           (.leaf (some (false)))
                                                           (.br (x366)
                                                            (.leaf (some (false)))
                                                            (.br (x391)
                                                             (.leaf (some (false)))
                                                             (.br (x298 || (x395 || x365))
                                                              (.leaf (some (false)))
                                                              (.br (kKnRC)
                                                               (.leaf (some (true)))
                                                               (.leaf none))))))))))
                                                      (.leaf none))
                                                     (.leaf none))
                                                    (.leaf none))
                                                   (.leaf none))
                                                  (.leaf none))
                                                 (.leaf none))
                                                (.leaf none))
                                               (.leaf none))
                                              (.leaf none))
                                             (.leaf none))
                                            (.leaf none))
                                           (.leaf none))
                                          (.leaf none))
                                         (.leaf none))
                                        (.leaf none))
                                       (.leaf none))
                                      (.leaf none))
                                     (.leaf none))
                                    (.leaf none))
                                   (.leaf none))
                                  (.leaf none))
                                 (.leaf none))
                                (.leaf none))
                               (.leaf none))
                              (.leaf none))
                             (.leaf none))
                            (.leaf none))
                           (.leaf none))
                          (.leaf none))
                         (.leaf none))
                        (.leaf none))
                       (.leaf none))
                      (.leaf none))
                     (.leaf none))
                    (.leaf none))
                   (.leaf none))
                  (.leaf none))
                 (.leaf none))
                (.leaf none))
               (.leaf none))
              (.leaf none))
             (.leaf none))
            (.leaf none))
           (.leaf none))
          (.leaf none))
         (.leaf none))
        (.leaf none))
       (.leaf none))
      (.leaf none))
     (.leaf none))
    (.leaf none)))
  (.leaf none)

noncomputable def lRR (l : List (Int × Int × Bool × Int)) (c : List (Int × Int)) (n : List Int) (t : Int) : Bool := getO lRRRs.dflt (lRRT l c n t).val

noncomputable def lRRC (l : List (Int × Int × Bool × Int)) (c : List (Int × Int)) (n : List Int) (t : Int) : Bool := okB (lRRT l c n t).val

noncomputable def lRRE : Entry := pureE lRRTs lRRRs (fun a => some (lRRC a.1 a.2.1 a.2.2.1 a.2.2.2)) (fun a => lRR a.1 a.2.1 a.2.2.1 a.2.2.2)

theorem lRR_ok : EntryOk Try.prog 8 lRRE :=
  pure_part (P := Try.prog) (n := 524287) (k := 8) (l := [(14, nCellsE), (15, mltstatemake_FromE), (27, kKnRE), (28, nRegionsBE), (29, nWordE), (30, pFind1E), (31, rFind1E), (32, pReadM1E), (33, rReadM1E), (34, pWaitsR1E), (35, rWaits1E)]) (ol := []) ⟨nCells_ok, mltstatemake_From_ok, kKnR_ok, nRegionsB_ok, nWord_ok, pFind1_ok, rFind1_ok, pReadM1_ok, rReadM1_ok, pWaitsR1_ok, rWaits1_ok, trivial⟩ Try.func8 rfl (by kernel_rfl) Try.call8 trivial (ts := lRRTs) (rs := lRRRs) (t := fun a => lRRT a.1 a.2.1 a.2.2.1 a.2.2.2) (fun a => by kernel_rfl)

abbrev lRWTs : List Sh := [Sh.one (R.sl (R.pair (R.int IntKind.u16) (R.pair (R.int IntKind.u16) (R.pair R.bool (R.int IntKind.i64))))), Sh.one (R.sl (R.pair (R.int IntKind.u16) (R.int IntKind.u8))), Sh.one (R.sl (R.int IntKind.i64)), Sh.one (R.int IntKind.u16), Sh.one (R.int IntKind.u8)]

abbrev lRWRs : Rs := Rs.one (Sh.one R.bool)

noncomputable def lRWT (l : List (Int × Int × Bool × Int)) (c : List (Int × Int)) (n : List Int) (t : Int) (v : Int) : RT (Option (Bool)) :=
  let x1 : Bool := decide (iN (List.length l) > 40) || (decide (iN (List.length c) > 60) || decide (iN (List.length n) > 100))
  let x2 : Bool := smG (nRegionsB (n, 0) 6).1 && smC (nCells (nRegionsB (n, 0) 6).2 10).1
  let x3 : Bool := !decide (writeMX l c t v = writeMX l c t v) || x2
  let x4 : Bool := !x3
  let x5 : List (Int × Int) := writeMX (nRegionsB (n, 0) 6).1 (nCells (nRegionsB (n, 0) 6).2 10).1 t v
  let x6 : Bool := !decide (writeMX l c t v = writeMX l c t v) || smC x5
  let x7 : Bool := !x6
  let x8 : Bool := decide (x5 = x5)
  let x9 : Bool := !x8
  let x10 : Bool := !decide (writeMX l c t v = writeMX l c t v) || (x9 || x2)
  let x11 : Bool := !x10
  let x12 : List (Int × Int) := writeMX (nRegionsB (n, 0) 6).1 (nCells (nRegionsB (n, 0) 6).2 10).1 (nWord (nCells (nRegionsB (n, 0) 6).2 10).2).1 v
  let x13 : Bool := !decide (writeMX l c t v = writeMX l c t v) || (x9 || smC x12)
  let x14 : Bool := decide (x12 = x12)
  .br (!x1 || kKnRC)
  (.br (x1)
   (.leaf (some (true)))
   (.br (!nRegionsBC (n, 0) 6 || nCellsC (nRegionsB (n, 0) 6).2 10)
    (.br (nRegionsBC (n, 0) 6)
     (.br (nWordC (nCells (nRegionsB (n, 0) 6).2 10).2)
      (.br (!(smG l && smC c) || (!(smG l && smC c) || (!smC (writeMX l c t v) || (x4 || (x4 || (x7 || (x11 || (x11 || (!x13 || (!decide (writeMX l c t v = writeMX l c t v) || (x9 || (!x14 || kKnRC))))))))))))
       (.br (!(smG l && smC c) || (!(smG l && smC c) || (!smC (writeMX l c t v) || (x4 || (x4 || (x7 || (x11 || (x11 || x13))))))))
        (.br (!(smG l && smC c) || (!(smG l && smC c) || (!smC (writeMX l c t v) || (x4 || (x4 || (x7 || (x11 || x10)))))))
         (.br (!(smG l && smC c) || (!(smG l && smC c) || (!smC (writeMX l c t v) || (x4 || (x4 || (x7 || x10))))))
          (.br (!(smG l && smC c) || (!(smG l && smC c) || (!smC (writeMX l c t v) || (x4 || (x4 || x6)))))
           (.br (!(smG l && smC c) || (!(smG l && smC c) || (!smC (writeMX l c t v) || (x4 || x3))))
            (.br (!(smG l && smC c) || (!(smG l && smC c) || (!smC (writeMX l c t v) || x3)))
             (.br (!(smG l && smC c) || (!(smG l && smC c) || smC (writeMX l c t v)))
              (.br (!(smG l && smC c) || smG l && smC c)
               (.br (smG l && smC c)
                (.leaf (some (decide (writeMX l c t v = writeMX l c t v) && (x8 && (x14 && kKnR)))))
                (.leaf none))
               (.leaf none))
              (.leaf none))
             (.leaf none))
            (.leaf none))
           (.leaf none))
          (.leaf none))
         (.leaf none))
        (.leaf none))
       (.leaf none))
      (.leaf none))
     (.leaf none))
    (.leaf none)))
  (.leaf none)

noncomputable def lRW (l : List (Int × Int × Bool × Int)) (c : List (Int × Int)) (n : List Int) (t : Int) (v : Int) : Bool := getO lRWRs.dflt (lRWT l c n t v).val

noncomputable def lRWC (l : List (Int × Int × Bool × Int)) (c : List (Int × Int)) (n : List Int) (t : Int) (v : Int) : Bool := okB (lRWT l c n t v).val

noncomputable def lRWE : Entry := pureE lRWTs lRWRs (fun a => some (lRWC a.1 a.2.1 a.2.2.1 a.2.2.2.1 a.2.2.2.2)) (fun a => lRW a.1 a.2.1 a.2.2.1 a.2.2.2.1 a.2.2.2.2)

theorem lRW_ok : EntryOk Try.prog 9 lRWE :=
  pure_part (P := Try.prog) (n := 32767) (k := 8) (l := [(14, nCellsE), (15, mltstatemake_FromE), (21, rSameM1E), (27, kKnRE), (28, nRegionsBE), (29, nWordE), (36, pWriteM1E), (37, rWriteM1E)]) (ol := []) ⟨nCells_ok, mltstatemake_From_ok, rSameM1_ok, kKnR_ok, nRegionsB_ok, nWord_ok, pWriteM1_ok, rWriteM1_ok, trivial⟩ Try.func9 rfl (by kernel_rfl) Try.call9 trivial (ts := lRWTs) (rs := lRWRs) (t := fun a => lRWT a.1 a.2.1 a.2.2.1 a.2.2.2.1 a.2.2.2.2) (fun a => by kernel_rfl)

abbrev lRKTs : List Sh := [Sh.one (R.sl (R.int IntKind.i64)), Sh.one (R.int IntKind.u16), Sh.one (R.int IntKind.u8)]

abbrev lRKRs : Rs := Rs.one (Sh.one R.bool)

noncomputable def lRKT (n : List Int) (other : Int) (v : Int) : RT (Option (Bool)) :=
  let x1 : Bool := smG (nRegionsB (n, 0) 5).1 && smC (nCells (nRegionsB (n, 0) 5).2 10).1
  let x2 : Int := findX (nRegionsB (n, 0) 5).1 (nWord (nCells (nRegionsB (n, 0) 5).2 10).2).1
  let x3 : Bool := decide (x2 ≥ 0)
  let x4 : Bool := decide (x2 < iN (List.length (nRegionsB (n, 0) 5).1))
  let x5 : Bool := x3 && (x4 && (R.get (R.pair (R.int IntKind.u16) (R.pair (R.int IntKind.u16) (R.pair R.bool (R.int IntKind.i64)))) (nRegionsB (n, 0) 5).1 x2).2.2.1)
  let x6 : Bool := !x5
  let x7 : List (Int × Int) := writeMX (nRegionsB (n, 0) 5).1 (nCells (nRegionsB (n, 0) 5).2 10).1 (nWord (nCells (nRegionsB (n, 0) 5).2 10).2).1 v
  let x8 : Bool := smG (nRegionsB (n, 0) 5).1 && smC x7
  let x9 : Bool := x6 || x8
  let x10 : Bool := !x9
  let x11 : Int := readMX (nRegionsB (n, 0) 5).1 x7 (nWord (nCells (nRegionsB (n, 0) 5).2 10).2).1
  let x12 : Bool := x11 != v
  let x13 : Bool := !x6
  let x14 : Bool := x13 || x8
  let x15 : Bool := x6 || (x12 || x14)
  let x16 : Bool := !x15
  let x17 : Bool := x13 || x1
  let x18 : Bool := x6 || (x12 || x17)
  let x19 : Bool := !x18
  let x20 : Bool := x5 || x14
  let x21 : Bool := x6 && x11 != readMX (nRegionsB (n, 0) 5).1 (nCells (nRegionsB (n, 0) 5).2 10).1 (nWord (nCells (nRegionsB (n, 0) 5).2 10).2).1
  let x22 : Bool := !other == (nWord (nCells (nRegionsB (n, 0) 5).2 10).2).1 || kKnRC
  let x23 : Bool := !x22
  let x24 : Bool := other == (nWord (nCells (nRegionsB (n, 0) 5).2 10).2).1 || x8
  let x25 : Bool := !x24
  let x26 : Bool := other == (nWord (nCells (nRegionsB (n, 0) 5).2 10).2).1 || x1
  let x27 : Bool := readMX (nRegionsB (n, 0) 5).1 x7 other == readMX (nRegionsB (n, 0) 5).1 (nCells (nRegionsB (n, 0) 5).2 10).1 other
  .br (!decide (iN (List.length n) > 100) || kKnRC)
  (.br (decide (iN (List.length n) > 100))
   (.leaf (some (true)))
   (.br (!nRegionsBC (n, 0) 5 || (!nCellsC (nRegionsB (n, 0) 5).2 10 || nWordC (nCells (nRegionsB (n, 0) 5).2 10).2))
    (.br (!nRegionsBC (n, 0) 5 || nCellsC (nRegionsB (n, 0) 5).2 10)
     (.br (nRegionsBC (n, 0) 5)
      (.br (x1)
       (.br (smG (nRegionsB (n, 0) 5).1)
        (.br (!x3 || (!x4 || inRng x2 (List.length (nRegionsB (n, 0) 5).1)))
         (.br (x10 || (x16 || (x19 || (!x20 || (x5 || x17)))))
          (.br (x10 || (x16 || (x19 || x20)))
           (.br (x10 || (x16 || x18))
            (.br (x10 || x15)
             (.br (x9)
              (.br (bif x5 then x12 || x21 else x21)
               (.leaf (some (false)))
               (.br (x23 || (x25 || (!x26 || (other == (nWord (nCells (nRegionsB (n, 0) 5).2 10).2).1 || (!x27 || kKnRC)))))
                (.br (x23 || (x25 || x26))
                 (.br (x23 || x24)
                  (.br (x22)
                   (.leaf (some (bif other == (nWord (nCells (nRegionsB (n, 0) 5).2 10).2).1 then kKnR else x27 && kKnR)))
                   (.leaf none))
                  (.leaf none))
                 (.leaf none))
                (.leaf none)))
              (.leaf none))
             (.leaf none))
            (.leaf none))
           (.leaf none))
          (.leaf none))
         (.leaf none))
        (.leaf none))
       (.leaf none))
      (.leaf none))
     (.leaf none))
    (.leaf none)))
  (.leaf none)

noncomputable def lRK (n : List Int) (other : Int) (v : Int) : Bool := getO lRKRs.dflt (lRKT n other v).val

noncomputable def lRKC (n : List Int) (other : Int) (v : Int) : Bool := okB (lRKT n other v).val

noncomputable def lRKE : Entry := pureE lRKTs lRKRs (fun a => some (lRKC a.1 a.2.1 a.2.2)) (fun a => lRK a.1 a.2.1 a.2.2)

theorem lRK_ok : EntryOk Try.prog 10 lRKE :=
  pure_part (P := Try.prog) (n := 16383) (k := 8) (l := [(14, nCellsE), (15, mltstatemake_FromE), (27, kKnRE), (28, nRegionsBE), (29, nWordE), (30, pFind1E), (32, pReadM1E), (36, pWriteM1E)]) (ol := []) ⟨nCells_ok, mltstatemake_From_ok, kKnR_ok, nRegionsB_ok, nWord_ok, pFind1_ok, pReadM1_ok, pWriteM1_ok, trivial⟩ Try.func10 rfl (by kernel_rfl) Try.call10 trivial (ts := lRKTs) (rs := lRKRs) (t := fun a => lRKT a.1 a.2.1 a.2.2) (fun a => by kernel_rfl)

abbrev lRCTs : List Sh := [Sh.one (R.sl (R.int IntKind.i64)), Sh.one (R.int IntKind.u16), Sh.one (R.int IntKind.u8)]

abbrev lRCRs : Rs := Rs.one (Sh.one R.bool)

noncomputable def lRCT (n : List Int) (t : Int) (v : Int) : RT (Option (Bool)) :=
  let x1 : List (Int × Int × Bool × Int) := [] ++ (nRegionsB (n, 0) 4).1 ++ [(0, 65535, (nFlag (nCells (nRegionsB (n, 0) 4).2 10).2).1, (nNext (nFlag (nCells (nRegionsB (n, 0) 4).2 10).2).2 4).1)]
  let x2 : List (Int × Int × Bool × Int) := [] ++ x1
  let x3 : Bool := Nat.ble (List.length x2) most
  let x4 : Bool := !x3
  let x5 : List Int × Int := (nNext (nFlag (nCells (nRegionsB (n, 0) 4).2 10).2).2 4).2
  let x6 : Bool := nRegionsBC x5 3
  let x7 : List (Int × Int × Bool × Int) := x2 ++ (nRegionsB x5 3).1
  let x8 : Bool := smG x1
  let x9 : Bool := x8 && smC (nCells (nRegionsB (n, 0) 4).2 10).1
  let x10 : Bool := !x9
  let x11 : Bool := smG x7
  let x12 : Bool := x11 && smC (nCells (nRegionsB (n, 0) 4).2 10).1
  let x13 : Bool := !x12
  let x14 : Bool := readMX x1 (nCells (nRegionsB (n, 0) 4).2 10).1 t == readMX x7 (nCells (nRegionsB (n, 0) 4).2 10).1 t
  let x15 : Bool := !x14
  let x16 : Bool := x15 || x8
  let x17 : Bool := !x16
  let x18 : Bool := x15 || x11
  let x19 : Bool := !x18
  let x20 : Bool := waitsX x1 t == waitsX x7 t
  let x21 : Bool := !x20
  let x22 : Bool := x15 || (x21 || x9)
  let x23 : Bool := !x22
  let x24 : Bool := x15 || (x21 || x12)
  let x25 : Bool := !x24
  let x26 : List (Int × Int) := writeMX x1 (nCells (nRegionsB (n, 0) 4).2 10).1 t v
  let x27 : Bool := x15 || (x21 || smC x26)
  let x28 : Bool := decide (x26 = writeMX x7 (nCells (nRegionsB (n, 0) 4).2 10).1 t v)
  .br (!decide (iN (List.length n) > 100) || kKnRC)
  (.br (decide (iN (List.length n) > 100))
   (.leaf (some (true)))
   (.br (!nRegionsBC (n, 0) 4 || nCellsC (nRegionsB (n, 0) 4).2 10)
    (.br (nRegionsBC (n, 0) 4)
     (.br (!Nat.ble (List.length ([] ++ (nRegionsB (n, 0) 4).1)) most || (!nFlagC (nCells (nRegionsB (n, 0) 4).2 10).2 || (!nNextC (nFlag (nCells (nRegionsB (n, 0) 4).2 10).2).2 4 || Nat.ble (List.length x1) most)))
      (.br (!Nat.ble (List.length ([] ++ (nRegionsB (n, 0) 4).1)) most || (!nFlagC (nCells (nRegionsB (n, 0) 4).2 10).2 || nNextC (nFlag (nCells (nRegionsB (n, 0) 4).2 10).2).2 4))
       (.br (!Nat.ble (List.length ([] ++ (nRegionsB (n, 0) 4).1)) most || nFlagC (nCells (nRegionsB (n, 0) 4).2 10).2)
        (.br (Nat.ble (List.length ([] ++ (nRegionsB (n, 0) 4).1)) most)
         (.br (x4 || (!x6 || Nat.ble (List.length x7) most))
          (.br (x4 || x6)
           (.br (x3)
            (.br (x10 || (x13 || (x17 || (x19 || (x23 || (x25 || (!x27 || (x15 || (x21 || (!x28 || kKnRC))))))))))
             (.br (x10 || (x13 || (x17 || (x19 || (x23 || (x25 || x27))))))
              (.br (x10 || (x13 || (x17 || (x19 || (x23 || x24)))))
               (.br (x10 || (x13 || (x17 || (x19 || x22))))
                (.br (x10 || (x13 || (x17 || x18)))
                 (.br (x10 || (x13 || x16))
                  (.br (x10 || x12)
                   (.br (x9)
                    (.leaf (some (x14 && (x20 && (x28 && kKnR)))))
                    (.leaf none))
                   (.leaf none))
                  (.leaf none))
                 (.leaf none))
                (.leaf none))
               (.leaf none))
              (.leaf none))
             (.leaf none))
            (.leaf none))
           (.leaf none))
          (.leaf none))
         (.leaf none))
        (.leaf none))
       (.leaf none))
      (.leaf none))
     (.leaf none))
    (.leaf none)))
  (.leaf none)

noncomputable def lRC (n : List Int) (t : Int) (v : Int) : Bool := getO lRCRs.dflt (lRCT n t v).val

noncomputable def lRCC (n : List Int) (t : Int) (v : Int) : Bool := okB (lRCT n t v).val

noncomputable def lRCE : Entry := pureE lRCTs lRCRs (fun a => some (lRCC a.1 a.2.1 a.2.2)) (fun a => lRC a.1 a.2.1 a.2.2)

theorem lRC_ok : EntryOk Try.prog 11 lRCE :=
  pure_part (P := Try.prog) (n := 4095) (k := 8) (l := [(14, nCellsE), (15, mltstatemake_FromE), (21, rSameM1E), (27, kKnRE), (28, nRegionsBE), (32, pReadM1E), (34, pWaitsR1E), (36, pWriteM1E), (38, nFlagE), (39, nNextE)]) (ol := []) ⟨nCells_ok, mltstatemake_From_ok, rSameM1_ok, kKnR_ok, nRegionsB_ok, pReadM1_ok, pWaitsR1_ok, pWriteM1_ok, nFlag_ok, nNext_ok, trivial⟩ Try.func11 rfl (by kernel_rfl) Try.call11 trivial (ts := lRCTs) (rs := lRCRs) (t := fun a => lRCT a.1 a.2.1 a.2.2) (fun a => by kernel_rfl)

abbrev lRVTs : List Sh := [Sh.one (R.sl (R.pair (R.int IntKind.u16) (R.pair (R.int IntKind.u16) (R.pair R.bool (R.int IntKind.i64))))), Sh.one (R.sl (R.int IntKind.i64)), Sh.agg (R.pair (R.int IntKind.u16) (R.pair (R.int IntKind.u16) (R.pair R.bool (R.int IntKind.i64)))), Sh.one (R.int IntKind.i64), Sh.one (R.int IntKind.i64)]

abbrev lRVRs : Rs := Rs.one (Sh.one R.bool)

noncomputable def lRVT (l : List (Int × Int × Bool × Int)) (n : List Int) (r : Int × Int × Bool × Int) (t : Int) (more : Int) : RT (Option (Bool)) :=
  let x1 : Bool := !decide (iN (List.length ([] ++ (nRegionsB (n, 0) 18).1)) > 0)
  let x2 : List (Int × Int × Bool × Int) := [(0, 5, false, IntKind.i64.wrap (99 + mPlace more 3))] ++ (nRegionsB (n, 0) 18).1
  let x3 : Bool := !validRX l == validRX l || smG (nRegionsB (n, 0) 18).1
  let x4 : Bool := !x3
  let x5 : Bool := validRX (nRegionsB (n, 0) 18).1 == validRX (nRegionsB (n, 0) 18).1
  let x6 : Bool := !x5
  let x7 : List (Int × Int × Bool × Int) := bif decide (iN (List.length ([] ++ (nRegionsB (n, 0) 18).1)) > 0) then setI ([] ++ (nRegionsB (n, 0) 18).1) (mPlace t (iN (List.length ([] ++ (nRegionsB (n, 0) 18).1)))) r else [] ++ (nRegionsB (n, 0) 18).1
  let x8 : Bool := !validRX l == validRX l || (x6 || smG x7)
  let x9 : Bool := !x8
  let x10 : Int := validRX x7
  let x11 : Bool := x10 == x10
  let x12 : Bool := !x11
  let x13 : Bool := !validRX l == validRX l || (x6 || (x12 || smG x2))
  let x14 : Bool := !x13
  let x15 : Int := validRX x2
  let x16 : Bool := x15 == x15
  .br (!(decide (iN (List.length l) > 40) || decide (iN (List.length n) > 100)) || kKnRC)
  (.br (decide (iN (List.length l) > 40) || decide (iN (List.length n) > 100))
   (.leaf (some (true)))
   (.br (nRegionsBC (n, 0) 18)
    (.br (Nat.ble (List.length ([] ++ (nRegionsB (n, 0) 18).1)) most)
     (.br (x1 || (!mPlaceC t (iN (List.length ([] ++ (nRegionsB (n, 0) 18).1))) || inRng (mPlace t (iN (List.length ([] ++ (nRegionsB (n, 0) 18).1)))) (List.length ([] ++ (nRegionsB (n, 0) 18).1))))
      (.br (x1 || mPlaceC t (iN (List.length ([] ++ (nRegionsB (n, 0) 18).1))))
       (.br (!mPlaceC more 3 || Nat.ble (List.length x2) most)
        (.br (mPlaceC more 3)
         (.br (!smG l || (!smG l || (x4 || (x4 || (x9 || (x9 || (x14 || (x14 || (!validRX l == validRX l || (x6 || (x12 || (!x16 || kKnRC))))))))))))
          (.br (!smG l || (!smG l || (x4 || (x4 || (x9 || (x9 || (x14 || x13)))))))
           (.br (!smG l || (!smG l || (x4 || (x4 || (x9 || (x9 || x13))))))
            (.br (!smG l || (!smG l || (x4 || (x4 || (x9 || x8)))))
             (.br (!smG l || (!smG l || (x4 || (x4 || x8))))
              (.br (!smG l || (!smG l || (x4 || x3)))
               (.br (!smG l || (!smG l || x3))
                (.br (!smG l || smG l)
                 (.br (smG l)
                  (.leaf (some (validRX l == validRX l && (x5 && (x11 && (x16 && kKnR))))))
                  (.leaf none))
                 (.leaf none))
                (.leaf none))
               (.leaf none))
              (.leaf none))
             (.leaf none))
            (.leaf none))
           (.leaf none))
          (.leaf none))
         (.leaf none))
        (.leaf none))
       (.leaf none))
      (.leaf none))
     (.leaf none))
    (.leaf none)))
  (.leaf none)

noncomputable def lRV (l : List (Int × Int × Bool × Int)) (n : List Int) (r : Int × Int × Bool × Int) (t : Int) (more : Int) : Bool := getO lRVRs.dflt (lRVT l n r t more).val

noncomputable def lRVC (l : List (Int × Int × Bool × Int)) (n : List Int) (r : Int × Int × Bool × Int) (t : Int) (more : Int) : Bool := okB (lRVT l n r t more).val

noncomputable def lRVE : Entry := pureE lRVTs lRVRs (fun a => some (lRVC a.1 a.2.1 a.2.2.1 a.2.2.2.1 a.2.2.2.2)) (fun a => lRV a.1 a.2.1 a.2.2.1 a.2.2.2.1 a.2.2.2.2)

theorem lRV_ok : EntryOk Try.prog 12 lRVE :=
  pure_part (P := Try.prog) (n := 16383) (k := 8) (l := [(15, mltstatemake_FromE), (27, kKnRE), (28, nRegionsBE), (40, mPlaceE), (41, pValidR1E), (42, rValidR1E)]) (ol := []) ⟨mltstatemake_From_ok, kKnR_ok, nRegionsB_ok, mPlace_ok, pValidR1_ok, rValidR1_ok, trivial⟩ Try.func12 rfl (by kernel_rfl) Try.call12 trivial (ts := lRVTs) (rs := lRVRs) (t := fun a => lRVT a.1 a.2.1 a.2.2.1 a.2.2.2.1 a.2.2.2.2) (fun a => by kernel_rfl)

end
end Go.Proofs.Ytfejikddclgkcaa
