/-
  Laws of the interpreter. Conditions: none.
-/
import Derived.Test.YtpkijkmagnhciaaGreatS3D
import Derived.Test.YtpkijkmagnhciaaGreatProg
import Derived.Test.YtpkijkmagnhciaaGreatMakeOk5
import Derived.Test.YtpkijkmagnhciaaGreatS3Box1
import Derived.Test.YtpkijkmagnhciaaGreatMemE
import Derived.Test.YtpkijkmagnhciaaGreatS3New
import Derived.Test.YtpkijkmagnhciaaGreatS3Stg
set_option linter.unusedSimpArgs false
open Go Go.S3 Go.Proofs
set_option linter.unusedVariables false
set_option maxRecDepth 100000
namespace Go.Proofs.YtpkijkmagnhciaaGreat
noncomputable section
def qDoE : Entry := .tree (evFunc (envX Tryz.prog [(170, pReadM1E), (171, pWriteM1E)] [] 9223389629049209151 8) Tryz.f117)
theorem qDo_ok : EntryOk Tryz.prog 117 qDoE := inl_ok (P := Tryz.prog) (n := 9223389629049209151) (k := 8) (l := [(170, pReadM1E), (171, pWriteM1E)]) (ol := []) ⟨pReadM1_ok, pWriteM1_ok, trivial⟩ Tryz.func117 rfl (by kernel_rfl) Tryz.call117 trivial
def isisa_normalE : Entry := .tree (evFunc (envX Tryz.prog [(114, mNorm1E)] [] 7 8) Tryz.f66)
theorem isisa_normal_ok : EntryOk Tryz.prog 66 isisa_normalE := inl_ok (P := Tryz.prog) (n := 7) (k := 8) (l := [(114, mNorm1E)]) (ol := []) ⟨mNorm1_ok, trivial⟩ Tryz.func66 rfl (by kernel_rfl) Tryz.call66 trivial
def qStepBL0c : LS := { n := 37, slots := [(0, .fix (A.loc 2 0)), (2, .code (Sh.one (R.int IntKind.i64))), (5, .fix (A.loc 3 0)), (7, .fix (A.loc 4 0)), (8, .fix (A.loc 5 0)), (9, .code (Sh.one (R.sl (R.int IntKind.u8)))), (10, .tip 1)], boxes := [[.many rcCPU], [.many rcCPU], [.code rcRG, .code rcCE, .code (R.sl (R.int IntKind.u8)), .tip 0], [.many rcCPU], [.many (R.pair R.bool (R.pair R.bool rcF7))], [.many rcCPU]], stgs := [⟨R.pair (R.int IntKind.u8) (R.int IntKind.u8), 134, true⟩, ⟨(R.int IntKind.u8), 5, true⟩] }
def qStepBL0T (a : Int × List Int × TC × TC × List (Int × Int × Bool × Int) × List (Int × Int) × List Int × TC × (Bool × Bool × Bool × Bool × Bool × Bool × Bool × Bool × Bool) × TC × List (Int × Int) × List Int × PUnit) : RT (Option (Go1 (Int × List Int × TC × TC × List (Int × Int × Bool × Int) × List (Int × Int) × List Int × TC × (Bool × Bool × Bool × Bool × Bool × Bool × Bool × Bool × Bool) × TC × List (Int × Int) × List Int × PUnit))) :=
  let x1 : TY × Bool := nextX a.2.2.2.2.2.2.2.1 a.1 a.2.2.2.2.2.2.2.2.2.2.2.1
  let x2 : Bool := !x1.2
  let x3 : Int × Int × Int × Int := x1.1
  let x4 : Int := x3.1
  let x5 : Bool := x4 == 1
  let x6 : Bool := x4 == 2
  let x7 : Bool := bif x5 then x5 else bif x6 then x6 else x4 == 4
  let x8 : Bool := !x7
  let x9 : Bool := smG a.2.2.2.2.1 && smC a.2.2.2.2.2.1
  let x10 : Bool := x8 || x9
  let x11 : Bool := !x10
  let x12 : Bool := x4 == 3
  let x13 : Bool := bif x12 then x12 else x4 == 5
  let x14 : Bool := !x13
  let x15 : Bool := x7 || (x14 || x9)
  let x16 : Bool := !x15
  let x17 : Bool := x4 == 7
  let x18 : Bool := !x17
  let x19 : Int × Int × Int := x3.2
  let x20 : Int := x19.1
  let x21 : Int := x19.2.1
  let x22 : List (Int × Int) := a.2.2.2.2.2.2.2.2.2.2.1 ++ [(IntKind.u8.wrap x20, x21)]
  let x23 : Bool := x7 || (x13 || (x18 || Nat.ble (List.length x22) most))
  let x24 : Bool := !x23
  let x25 : Bool := x4 == 6
  let x26 : Bool := x4 == 8
  let x27 : Bool := bif x25 then x25 else bif x26 then x26 else x4 == 9
  let x28 : Bool := !x27
  let x29 : Bool := x11 || (x16 || (x24 || (x7 || (x13 || (x17 || (x28 || (iN (List.length a.2.2.2.2.2.2.1) == 0 || (!inRng 0 (List.length a.2.2.2.2.2.2.1) || decide (0 ≤ 1) && decide (1 ≤ iN (List.length a.2.2.2.2.2.2.1)) && (decide (iN (List.length a.2.2.2.2.2.2.1) = 0) || decide (iN (List.length a.2.2.2.2.2.2.1) ≤ iN (List.length a.2.2.2.2.2.2.1)))))))))))
  let x30 : Bool := !x29
  let x31 : Bool := x11 || (x16 || (x24 || (x7 || (x13 || (x17 || (x28 || (iN (List.length a.2.2.2.2.2.2.1) == 0 || inRng 0 (List.length a.2.2.2.2.2.2.1))))))))
  let x32 : Bool := !x31
  let x33 : Bool := x11 || (x16 || x23)
  let x34 : Bool := !x33
  let x35 : Bool := x11 || x15
  let x36 : Bool := !x35
  let x37 : List Int := a.2.2.2.2.2.2.2.2.2.2.2.1 ++ [readMX a.2.2.2.2.1 a.2.2.2.2.2.1 x20]
  let x38 : Bool := x30 || (x32 || (x34 || (x36 || (x11 || (x8 || Nat.ble (List.length x37) most)))))
  let x39 : Bool := !x38
  let x40 : List Int := a.2.2.2.2.2.2.2.2.2.2.2.1 ++ [x21]
  let x41 : Bool := Nat.ble (List.length x40) most
  let x42 : Bool := x30 || (x32 || (x34 || (x36 || (x11 || (x7 || (x14 || x41))))))
  let x43 : Bool := !x42
  let x44 : Bool := x30 || (x32 || (x34 || (x36 || (x11 || (x7 || (x13 || (x18 || x41)))))))
  let x45 : Bool := !x44
  let x46 : List Int := a.2.2.2.2.2.2.2.2.2.2.2.1 ++ [0]
  let x47 : Bool := Nat.ble (List.length x46) most
  let x48 : Bool := x30 || (x32 || (x34 || (x36 || (x11 || (x7 || (x13 || (x17 || (x28 || (!iN (List.length a.2.2.2.2.2.2.1) == 0 || x47)))))))))
  let x49 : Bool := !x48
  let x50 : List Int := a.2.2.2.2.2.2.2.2.2.2.2.1 ++ [R.get (R.int IntKind.u8) a.2.2.2.2.2.2.1 0]
  let x51 : Bool := x30 || (x32 || (x34 || (x36 || (x11 || (x7 || (x13 || (x17 || (x28 || (iN (List.length a.2.2.2.2.2.2.1) == 0 || Nat.ble (List.length x50) most)))))))))
  let x52 : Bool := !x51
  let x53 : Bool := x30 || (x32 || (x34 || (x36 || (x11 || (x7 || (x13 || (x17 || (x27 || x47))))))))
  let x54 : Bool := !x53
  let x55 : Bool := x30 || (x32 || (x34 || (x36 || x10)))
  let x56 : Bool := !x55
  let x57 : Bool := x30 || (x32 || (x34 || x35))
  let x58 : Bool := !x57
  let x59 : Bool := x30 || (x32 || x33)
  let x60 : Bool := !x59
  let x61 : Bool := x30 || x31
  .br (x2 || (x39 || (x43 || (x45 || (x49 || (x52 || (x54 || (x56 || (x58 || (x60 || (!x61 || x29)))))))))))
  (.br (x2 || (x39 || (x43 || (x45 || (x49 || (x52 || (x54 || (x56 || (x58 || (x60 || x61))))))))))
   (.br (x2 || (x39 || (x43 || (x45 || (x49 || (x52 || (x54 || (x56 || (x58 || x59)))))))))
    (.br (x2 || (x39 || (x43 || (x45 || (x49 || (x52 || (x54 || (x56 || x57))))))))
     (.br (x2 || (x39 || (x43 || (x45 || (x49 || (x52 || (x54 || x55)))))))
      (.br (x2 || (x39 || (x43 || (x45 || (x49 || (x52 || x53))))))
       (.br (x2 || (x39 || (x43 || (x45 || (x49 || x51)))))
        (.br (x2 || (x39 || (x43 || (x45 || x48))))
         (.br (x2 || (x39 || (x43 || x44)))
          (.br (x2 || (x39 || x42))
           (.br (x2 || x38)
            (.br (x2)
             (.leaf (some (Go1.ret (a.1, a.2.2.2.2.2.2.2.2.2.2.2.1, a.2.2.1, a.2.2.2.1, a.2.2.2.2.1, a.2.2.2.2.2.1, a.2.2.2.2.2.2.1, a.2.2.2.2.2.2.2.1, a.2.2.2.2.2.2.2.2.1, finX a.2.2.2.2.2.2.2.1 a.1 a.2.2.2.2.2.2.2.2.2.2.2.1 a.2.2.2.2.2.2.2.2.1, a.2.2.2.2.2.2.2.2.2.2.1, a.2.2.2.2.2.2.2.2.2.2.2.1, PUnit.unit))))
             (.leaf (some (Go1.cont (a.1, a.2.1, a.2.2.1, a.2.2.2.1, a.2.2.2.2.1, bif x7 then a.2.2.2.2.2.1 else bif x13 then writeMX a.2.2.2.2.1 a.2.2.2.2.2.1 x20 x21 else a.2.2.2.2.2.1, bif x7 then a.2.2.2.2.2.2.1 else bif x13 then a.2.2.2.2.2.2.1 else bif x17 then a.2.2.2.2.2.2.1 else bif x27 then bif iN (List.length a.2.2.2.2.2.2.1) == 0 then a.2.2.2.2.2.2.1 else subL a.2.2.2.2.2.2.1 1 (iN (List.length a.2.2.2.2.2.2.1)) else a.2.2.2.2.2.2.1, a.2.2.2.2.2.2.2.1, a.2.2.2.2.2.2.2.2.1, a.2.2.2.2.2.2.2.2.2.1, bif x7 then a.2.2.2.2.2.2.2.2.2.2.1 else bif x13 then a.2.2.2.2.2.2.2.2.2.2.1 else bif x17 then x22 else a.2.2.2.2.2.2.2.2.2.2.1, bif x7 then x37 else bif x13 then x40 else bif x17 then x40 else bif x27 then bif iN (List.length a.2.2.2.2.2.2.1) == 0 then x46 else x50 else x46, PUnit.unit)))))
            (.leaf none))
           (.leaf none))
          (.leaf none))
         (.leaf none))
        (.leaf none))
       (.leaf none))
      (.leaf none))
     (.leaf none))
    (.leaf none))
   (.leaf none))
  (.leaf none)
def qStepBL0O : Ora := loopE true qStepBL0c qStepBL0T (fun a => 100)
theorem qStepBL0_ok : OraOk (envX Tryz.prog [(93, pNextE), (115, pAccept1E), (116, pFinE), (117, qDoE)] [] 8191 8) (.block 0 (.loop (bodyIn Tryz.f67.body 0))) qStepBL0O :=
  loop_part (envX_ok (l := [(93, pNextE), (115, pAccept1E), (116, pFinE), (117, qDoE)]) ⟨pNext_ok, pAccept1_ok, pFin_ok, qDo_ok, trivial⟩ [] 8191 8) (loopsOk_bare (by kernel_rfl)) (fun a => by kernel_rfl)
def qStepBE : Entry := .tree (evFunc (envX Tryz.prog [(93, pNextE), (115, pAccept1E), (116, pFinE), (117, qDoE)] [(0, qStepBL0O)] 8191 8) Tryz.f67)
theorem qStepB_ok : EntryOk Tryz.prog 67 qStepBE := inl_ok (P := Tryz.prog) (n := 8191) (k := 8) (l := [(93, pNextE), (115, pAccept1E), (116, pFinE), (117, qDoE)]) (ol := [(0, qStepBL0O)]) ⟨pNext_ok, pAccept1_ok, pFin_ok, qDo_ok, trivial⟩ Tryz.func67 rfl (by kernel_rfl) Tryz.call67 ⟨qStepBL0_ok, trivial⟩
abbrev iRunTs : List Sh := [Sh.agg rcCPU, Sh.one rcRG, Sh.one rcCE, Sh.one (R.sl (R.int IntKind.u8)), Sh.one (R.int IntKind.i64)]
abbrev iRunRs : Rs := Rs.tup [Sh.agg rcCPU, Sh.one rcCE, Sh.one (R.sl (R.pair (R.int IntKind.u8) (R.int IntKind.u8))), Sh.one (R.int IntKind.i64)]
def iRunL0c : LS := { n := 49, slots := [(4, .code (Sh.one (R.int IntKind.i64))), (5, .fix (A.loc 0 0)), (10, .fix (A.loc 1 0)), (13, .code (Sh.one (R.int IntKind.i64))), (14, .fix (A.loc 2 0))], boxes := [[.many rcCPU], [.many rcCPU], [.code rcRG, .code rcCE, .code (R.sl (R.int IntKind.u8)), .tip 0]], stgs := [⟨R.pair (R.int IntKind.u8) (R.int IntKind.u8), 134, true⟩] }
def iRunL0T (a : Int × Int × TC × TC × List (Int × Int × Bool × Int) × List (Int × Int) × List Int × List (Int × Int) × PUnit) : RT (Option (Go1 (Int × Int × TC × TC × List (Int × Int × Bool × Int) × List (Int × Int) × List Int × List (Int × Int) × PUnit))) :=
  let x1 : Int × List Int × TC × TC × List (Int × Int × Bool × Int) × List (Int × Int) × List Int × TC × (Bool × Bool × Bool × Bool × Bool × Bool × Bool × Bool × Bool) × TC × List (Int × Int) × List Int × PUnit := (0, [], a.2.2.1, a.2.2.2.1, a.2.2.2.2.1, a.2.2.2.2.2.1, a.2.2.2.2.2.2.1, rAccept a.2.2.1 0, (false, false, false, false, false, false, false, false, false), (0, (0, 0, 0, 0, 0, 0, 0, (false, false, false, false, false, false, false), 0, 0), false, false, false, 0, false, false, false, false, false, false, false), a.2.2.2.2.2.2.2.1, [], ())
  let x2 : Option (Bool × Int × List Int × TC × TC × List (Int × Int × Bool × Int) × List (Int × Int) × List Int × TC × (Bool × Bool × Bool × Bool × Bool × Bool × Bool × Bool × Bool) × TC × List (Int × Int) × List Int × PUnit) := runF true qStepBL0T (fun a_1 => 100) x1
  let x3 : Bool × Int × List Int × TC × TC × List (Int × Int × Bool × Int) × List (Int × Int) × List Int × TC × (Bool × Bool × Bool × Bool × Bool × Bool × Bool × Bool × Bool) × TC × List (Int × Int) × List Int × PUnit := getO (false, x1) x2
  let x4 : Bool := x3.1
  let x5 : TC × List (Int × Int × Bool × Int) × List (Int × Int) × List Int × TC × (Bool × Bool × Bool × Bool × Bool × Bool × Bool × Bool × Bool) × TC × List (Int × Int) × List Int × PUnit := x3.2.2.2.2
  let x6 : List (Int × Int × Bool × Int) × List (Int × Int) × List Int × TC × (Bool × Bool × Bool × Bool × Bool × Bool × Bool × Bool × Bool) × TC × List (Int × Int) × List Int × PUnit := x5.2
  let x7 : List (Int × Int) × List Int × TC × (Bool × Bool × Bool × Bool × Bool × Bool × Bool × Bool × Bool) × TC × List (Int × Int) × List Int × PUnit := x6.2
  let x8 : List Int × TC × (Bool × Bool × Bool × Bool × Bool × Bool × Bool × Bool × Bool) × TC × List (Int × Int) × List Int × PUnit := x7.2
  let x9 : TC × List (Int × Int) × List Int × PUnit := x8.2.2.2
  let x10 : TC := x9.1
  let x11 : Int := x10.1
  let x12 : TR × Bool × Bool × Bool × Int × Bool × Bool × Bool × Bool × Bool × Bool × Bool := x10.2
  let x13 : TR := x12.1
  let x14 : Int := x13.1
  let x15 : Int × Int × Int × Int × Int × Int × TF × Int × Int := x13.2
  let x16 : Int := x15.1
  let x17 : Int × Int × Int × Int × Int × TF × Int × Int := x15.2
  let x18 : Int := x17.1
  let x19 : Int × Int × Int × Int × TF × Int × Int := x17.2
  let x20 : Int := x19.1
  let x21 : Int × Int × Int × TF × Int × Int := x19.2
  let x22 : Int := x21.1
  let x23 : Int × Int × TF × Int × Int := x21.2
  let x24 : Int := x23.1
  let x25 : Int × TF × Int × Int := x23.2
  let x26 : Int := x25.1
  let x27 : TF × Int × Int := x25.2
  let x28 : TF := x27.1
  let x29 : Bool := x28.1
  let x30 : Bool × Bool × Bool × Bool × Bool × Bool := x28.2
  let x31 : Bool := x30.1
  let x32 : Bool × Bool × Bool × Bool × Bool := x30.2
  let x33 : Bool := x32.1
  let x34 : Bool × Bool × Bool × Bool := x32.2
  let x35 : Bool := x34.1
  let x36 : Bool × Bool × Bool := x34.2
  let x37 : Bool := x36.1
  let x38 : Bool × Bool := x36.2
  let x39 : Bool := x38.1
  let x40 : Bool := x38.2
  let x41 : Int × Int := x27.2
  let x42 : Int := x41.1
  let x43 : Int := x41.2
  let x44 : Bool × Bool × Bool × Int × Bool × Bool × Bool × Bool × Bool × Bool × Bool := x12.2
  let x45 : Bool := x44.1
  let x46 : Bool × Bool × Int × Bool × Bool × Bool × Bool × Bool × Bool × Bool := x44.2
  let x47 : Bool := x46.1
  let x48 : Bool × Int × Bool × Bool × Bool × Bool × Bool × Bool × Bool := x46.2
  let x49 : Bool := x48.1
  let x50 : Int × Bool × Bool × Bool × Bool × Bool × Bool × Bool := x48.2
  let x51 : Int := x50.1
  let x52 : TF := x50.2
  let x53 : Bool := x52.1
  let x54 : Bool × Bool × Bool × Bool × Bool × Bool := x52.2
  let x55 : Bool := x54.1
  let x56 : Bool × Bool × Bool × Bool × Bool := x54.2
  let x57 : Bool := x56.1
  let x58 : Bool × Bool × Bool × Bool := x56.2
  let x59 : Bool := x58.1
  let x60 : Bool × Bool × Bool := x58.2
  let x61 : Bool := x60.1
  let x62 : Bool × Bool := x60.2
  let x63 : Bool := x62.1
  let x64 : Bool := x62.2
  let x65 : TC := x5.1
  let x66 : Int := x65.1
  let x67 : TR × Bool × Bool × Bool × Int × Bool × Bool × Bool × Bool × Bool × Bool × Bool := x65.2
  let x68 : TR := x67.1
  let x69 : Int := x68.1
  let x70 : Int × Int × Int × Int × Int × Int × TF × Int × Int := x68.2
  let x71 : Int := x70.1
  let x72 : Int × Int × Int × Int × Int × TF × Int × Int := x70.2
  let x73 : Int := x72.1
  let x74 : Int × Int × Int × Int × TF × Int × Int := x72.2
  let x75 : Int := x74.1
  let x76 : Int × Int × Int × TF × Int × Int := x74.2
  let x77 : Int := x76.1
  let x78 : Int × Int × TF × Int × Int := x76.2
  let x79 : Int := x78.1
  let x80 : Int × TF × Int × Int := x78.2
  let x81 : Int := x80.1
  let x82 : TF × Int × Int := x80.2
  let x83 : TF := x82.1
  let x84 : Bool := x83.1
  let x85 : Bool × Bool × Bool × Bool × Bool × Bool := x83.2
  let x86 : Bool := x85.1
  let x87 : Bool × Bool × Bool × Bool × Bool := x85.2
  let x88 : Bool := x87.1
  let x89 : Bool × Bool × Bool × Bool := x87.2
  let x90 : Bool := x89.1
  let x91 : Bool × Bool × Bool := x89.2
  let x92 : Bool := x91.1
  let x93 : Bool × Bool := x91.2
  let x94 : Bool := x93.1
  let x95 : Bool := x93.2
  let x96 : Int × Int := x82.2
  let x97 : Int := x96.1
  let x98 : Int := x96.2
  let x99 : Bool × Bool × Bool × Int × Bool × Bool × Bool × Bool × Bool × Bool × Bool := x67.2
  let x100 : Bool := x99.1
  let x101 : Bool × Bool × Int × Bool × Bool × Bool × Bool × Bool × Bool × Bool := x99.2
  let x102 : Bool := x101.1
  let x103 : Bool × Int × Bool × Bool × Bool × Bool × Bool × Bool × Bool := x101.2
  let x104 : Bool := x103.1
  let x105 : Int × Bool × Bool × Bool × Bool × Bool × Bool × Bool := x103.2
  let x106 : Int := x105.1
  let x107 : TF := x105.2
  let x108 : Bool := x107.1
  let x109 : Bool × Bool × Bool × Bool × Bool × Bool := x107.2
  let x110 : Bool := x109.1
  let x111 : Bool × Bool × Bool × Bool × Bool := x109.2
  let x112 : Bool := x111.1
  let x113 : Bool × Bool × Bool × Bool := x111.2
  let x114 : Bool := x113.1
  let x115 : Bool × Bool × Bool := x113.2
  let x116 : Bool := x115.1
  let x117 : Bool × Bool := x115.2
  let x118 : Bool := x117.1
  let x119 : Bool := x117.2
  let x120 : List (Int × Int × Bool × Int) := x6.1
  let x121 : List (Int × Int) := x7.1
  let x122 : List Int := x8.1
  let x123 : List (Int × Int) := x9.2.1
  .br (decide (a.2.1 < if 10000 < a.1 then 10000 else a.1) && !a.2.2.1.2.2.2.2.1)
  (.br (okB x2)
   (.leaf (some (Go1.cont (a.1, IntKind.i64.wrap (a.2.1 + 1), (bif x4 then x11 else x11, (bif x4 then x14 else x14, bif x4 then x16 else x16, bif x4 then x18 else x18, bif x4 then x20 else x20, bif x4 then x22 else x22, bif x4 then x24 else x24, bif x4 then x26 else x26, (bif x4 then x29 else x29, bif x4 then x31 else x31, bif x4 then x33 else x33, bif x4 then x35 else x35, bif x4 then x37 else x37, bif x4 then x39 else x39, bif x4 then x40 else x40), bif x4 then x42 else x42, bif x4 then x43 else x43), bif x4 then x45 else x45, bif x4 then x47 else x47, bif x4 then x49 else x49, bif x4 then x51 else x51, bif x4 then x53 else x53, bif x4 then x55 else x55, bif x4 then x57 else x57, bif x4 then x59 else x59, bif x4 then x61 else x61, bif x4 then x63 else x63, bif x4 then x64 else x64), (bif x4 then x66 else x66, (bif x4 then x69 else x69, bif x4 then x71 else x71, bif x4 then x73 else x73, bif x4 then x75 else x75, bif x4 then x77 else x77, bif x4 then x79 else x79, bif x4 then x81 else x81, (bif x4 then x84 else x84, bif x4 then x86 else x86, bif x4 then x88 else x88, bif x4 then x90 else x90, bif x4 then x92 else x92, bif x4 then x94 else x94, bif x4 then x95 else x95), bif x4 then x97 else x97, bif x4 then x98 else x98), bif x4 then x100 else x100, bif x4 then x102 else x102, bif x4 then x104 else x104, bif x4 then x106 else x106, bif x4 then x108 else x108, bif x4 then x110 else x110, bif x4 then x112 else x112, bif x4 then x114 else x114, bif x4 then x116 else x116, bif x4 then x118 else x118, bif x4 then x119 else x119), bif x4 then x120 else x120, bif x4 then x121 else x121, bif x4 then x122 else x122, bif x4 then x123 else x123, PUnit.unit))))
   (.leaf none))
  (.leaf (some (Go1.brk (a.1, a.2.1, a.2.2.1, a.2.2.2.1, a.2.2.2.2.1, a.2.2.2.2.2.1, a.2.2.2.2.2.2.1, a.2.2.2.2.2.2.2.1, PUnit.unit))))
def iRunL0O : Ora := loopE false iRunL0c iRunL0T (fun a => 20000)
theorem iRunL0_ok : OraOk (envX Tryz.prog [(66, isisa_normalE), (67, qStepBE)] [] 32767 8) (.block 0 (.loop (bodyIn Tryz.f24.body 0))) iRunL0O :=
  loop_part (envX_ok (l := [(66, isisa_normalE), (67, qStepBE)]) ⟨isisa_normal_ok, qStepB_ok, trivial⟩ [] 32767 8) (loopsOk_bare (by kernel_rfl)) (fun a => by kernel_rfl)
def iRunT (c : TC) (rg : List (Int × Int × Bool × Int)) (m : List (Int × Int)) (ins : List Int) (k : Int) : RT (Option (TC × List (Int × Int) × List (Int × Int) × Int)) :=
  let x1 : Int × Int × TC × TC × List (Int × Int × Bool × Int) × List (Int × Int) × List Int × List (Int × Int) × PUnit := (k, 0, c, (0, (0, 0, 0, 0, 0, 0, 0, (false, false, false, false, false, false, false), 0, 0), false, false, false, 0, false, false, false, false, false, false, false), rg, Cells.normX m, ins, [], ())
  let x2 : Option (Bool × Int × Int × TC × TC × List (Int × Int × Bool × Int) × List (Int × Int) × List Int × List (Int × Int) × PUnit) := runF false iRunL0T (fun a => 20000) x1
  let x3 : Int × TC × TC × List (Int × Int × Bool × Int) × List (Int × Int) × List Int × List (Int × Int) × PUnit := (getO (false, x1) x2).2.2
  let x4 : TC × TC × List (Int × Int × Bool × Int) × List (Int × Int) × List Int × List (Int × Int) × PUnit := x3.2
  let x5 : List (Int × Int) × List Int × List (Int × Int) × PUnit := x4.2.2.2
  .br (smC m)
  (.br (okB x2)
   (.leaf (some ((x4.1, x5.1, x5.2.2.1, x3.1))))
   (.leaf none))
  (.leaf none)
def iRun (c : TC) (rg : List (Int × Int × Bool × Int)) (m : List (Int × Int)) (ins : List Int) (k : Int) : TC × List (Int × Int) × List (Int × Int) × Int := getO iRunRs.dflt (iRunT c rg m ins k).val
def iRunC (c : TC) (rg : List (Int × Int × Bool × Int)) (m : List (Int × Int)) (ins : List Int) (k : Int) : Bool := okB (iRunT c rg m ins k).val
def iRunE : Entry := pureE iRunTs iRunRs (fun a => some (iRunC a.1 a.2.1 a.2.2.1 a.2.2.2.1 a.2.2.2.2)) (fun a => iRun a.1 a.2.1 a.2.2.1 a.2.2.2.1 a.2.2.2.2)
theorem iRun_ok : EntryOk Tryz.prog 24 iRunE :=
  pure_part (P := Tryz.prog) (n := 32767) (k := 8) (l := [(66, isisa_normalE), (67, qStepBE)]) (ol := [(0, iRunL0O)]) ⟨isisa_normal_ok, qStepB_ok, trivial⟩ Tryz.func24 rfl (by kernel_rfl) Tryz.call24 ⟨iRunL0_ok, trivial⟩ (ts := iRunTs) (rs := iRunRs) (t := fun a => iRunT a.1 a.2.1 a.2.2.1 a.2.2.2.1 a.2.2.2.2) (fun a => by kernel_rfl)
abbrev jOutsTs : List Sh := [Sh.one (R.sl (R.pair (R.int IntKind.u8) (R.int IntKind.u8))), Sh.one (R.sl (R.pair (R.int IntKind.u8) (R.int IntKind.u8)))]
abbrev jOutsRs : Rs := Rs.one (Sh.one R.bool)
def jOutsL0c : LS := { n := 26, slots := [(0, .code (Sh.one (R.sl (R.pair (R.int IntKind.u8) (R.int IntKind.u8))))), (1, .code (Sh.one (R.sl (R.pair (R.int IntKind.u8) (R.int IntKind.u8))))), (4, .code (Sh.one R.bool)), (12, .code (Sh.one (R.int IntKind.i64))), (13, .code (Sh.one (R.int IntKind.i64)))], boxes := [], stgs := [] }
def jOutsL0T (a : List (Int × Int) × List (Int × Int) × Bool × Int × Int × PUnit) : RT (Option (Go1 (List (Int × Int) × List (Int × Int) × Bool × Int × Int × PUnit))) :=
  let x1 : Bool := !inRng a.2.2.2.2.1 (List.length a.1) || inRng a.2.2.2.2.1 (List.length a.2.1)
  let x2 : Int × Int := R.get (R.pair (R.int IntKind.u8) (R.int IntKind.u8)) a.1 a.2.2.2.2.1
  let x3 : Int × Int := R.get (R.pair (R.int IntKind.u8) (R.int IntKind.u8)) a.2.1 a.2.2.2.2.1
  let x4 : Int × Int × PUnit := (a.2.2.2.1, a.2.2.2.2.1, PUnit.unit)
  .br (decide (a.2.2.2.2.1 < a.2.2.2.1))
  (.br (!x1 || inRng a.2.2.2.2.1 (List.length a.1))
   (.br (x1)
    (.br (!(x2.1 == x3.1 && (x2.2 == x3.2 && true)))
     (.leaf (some (Go1.ret (a.1, a.2.1, false, x4))))
     (.leaf (some (Go1.cont (a.1, a.2.1, a.2.2.1, a.2.2.2.1, IntKind.i64.wrap (a.2.2.2.2.1 + 1), PUnit.unit)))))
    (.leaf none))
   (.leaf none))
  (.leaf (some (Go1.brk (a.1, a.2.1, a.2.2.1, x4))))
def jOutsL0O : Ora := loopE true jOutsL0c jOutsL0T (fun a => 1000000000000)
theorem jOutsL0_ok : OraOk (envX Tryz.prog [] [] 63 8) (.block 0 (.loop (bodyIn Tryz.f26.body 0))) jOutsL0O :=
  loop_part (envX_ok (l := []) trivial [] 63 8) (loopsOk_bare (by kernel_rfl)) (fun a => by kernel_rfl)
def jOutsT (a : List (Int × Int)) (b : List (Int × Int)) : RT (Option (Bool)) :=
  let x1 : Option (Bool × List (Int × Int) × List (Int × Int) × Bool × Int × Int × PUnit) := runF true jOutsL0T (fun a_1 => 1000000000000) (a, b, false, iN (List.length a), 0, ())
  let x2 : Bool × List (Int × Int) × List (Int × Int) × Bool × Int × Int × PUnit := getO (false, a, b, false, iN (List.length a), 0, ()) x1
  .br (iN (List.length a) != iN (List.length b))
  (.leaf (some (false)))
  (.br (okB x1)
   (.br x2.1
    (.leaf (some x2.2.2.2.1))
    (.leaf (some (true))))
   (.leaf none))
def jOuts (a : List (Int × Int)) (b : List (Int × Int)) : Bool := getO jOutsRs.dflt (jOutsT a b).val
def jOutsC (a : List (Int × Int)) (b : List (Int × Int)) : Bool := okB (jOutsT a b).val
def jOutsE : Entry := pureE jOutsTs jOutsRs (fun a => some (jOutsC a.1 a.2)) (fun a => jOuts a.1 a.2)
theorem jOuts_ok : EntryOk Tryz.prog 26 jOutsE :=
  pure_part (P := Tryz.prog) (n := 63) (k := 8) (l := []) (ol := [(0, jOutsL0O)]) trivial Tryz.func26 rfl (by kernel_rfl) Tryz.call26 ⟨jOutsL0_ok, trivial⟩ (ts := jOutsTs) (rs := jOutsRs) (t := fun a => jOutsT a.1 a.2) (fun a => by kernel_rfl)
end
end Go.Proofs.YtpkijkmagnhciaaGreat
open Go Go.S3 Go.Proofs Go.Proofs.Cells
set_option linter.unusedVariables false
set_option linter.unusedSimpArgs false
set_option maxRecDepth 100000
namespace Go.Proofs.YtpkijkmagnhciaaGreat
noncomputable section
abbrev MacT := List RegionT × List Cell × List Int × List (Int × Int)
def doX (x : Cyc) (m : MacT) : Int × MacT :=
  bif x.1 == 1 || (x.1 == 2 || x.1 == 4) then (readMX m.1 m.2.1 x.2.1, m)
  else bif x.1 == 3 || x.1 == 5 then (x.2.2.1, (m.1, writeMX m.1 m.2.1 x.2.1 x.2.2.1, m.2.2))
  else bif x.1 == 7 then (x.2.2.1, (m.1, m.2.1, m.2.2.1, m.2.2.2 ++ [(IntKind.wrap .u8 x.2.1, x.2.2.1)]))
  else bif x.1 == 6 || (x.1 == 8 || x.1 == 9) then (m.2.2.1.getD 0 0, (m.1, m.2.1, m.2.2.1.drop 1, m.2.2.2))
  else (0, m)
def goX (c : CpuT) (s : Int) : Nat → List Int → MacT → List Int × MacT
  | 0, g, m => (g, m)
  | n + 1, g, m => bif (nextX c s g).2 then goX c s n (g ++ [(doX (nextX c s g).1 m).1]) (doX (nextX c s g).1 m).2 else (g, m)
def stepX (c : CpuT) (s : Int) (l : LnT) (m : MacT) : CpuT × MacT × List Int :=
  (finX (rAccept c s) s (goX (rAccept c s) s 6 [] m).1 l, (goX (rAccept c s) s 6 [] m).2, (goX (rAccept c s) s 6 [] m).1)
def noL : LnT := (false, false, false, false, false, false, false, false, false)
def runX : Nat → CpuT → MacT → Int → CpuT × MacT × Int
  | 0, c, m, u => (c, m, u)
  | n + 1, c, m, u => bif c.2.2.2.2.1 then (c, m, u) else runX n (stepX c 0 noL m).1 (stepX c 0 noL m).2.1 (u + 1)
theorem cle {b : Bool} {x y : List Cyc} {n : Nat} (hx : x.length ≤ n) (hy : y.length ≤ n) : (bif b then x else y).length ≤ n := by cases b <;> assumption
theorem body_len (c : CpuT) (inj : Bool) (g : List Int) (i : InsT) : (bodyX c inj g i).length ≤ 4 := by
  unfold bodyX
  simp only [targetX, readW, writeW, pushX, popX]
  repeat' apply cle
  all_goals first
    | (simp only [List.length_cons, List.length_nil, List.length_append]; omega)
    | (cases i.2.2.1 == 6 <;> cases takenX c i <;> cases c.1 == 2 <;> simp; done)
    | skip
theorem plan_len (c : CpuT) (s : Int) (g : List Int) : (planX c s g).length ≤ 5 := by
  have h := fun o => body_len c (s == 5) g (rDecode c.1 o)
  unfold planX
  cases g with
  | nil => exact cle (by simp [pushX]) (by simp)
  | cons o l => exact cle (by simp [pushX]) (by simpa using h o)
theorem next_end (c : CpuT) (s : Int) (g : List Int) (h : 5 ≤ g.length) : (nextX c s g).2 = false := by
  have hp := plan_len c s g
  unfold nextX
  simp [pick]; omega
end
end Go.Proofs.YtpkijkmagnhciaaGreat
open Go Go.S3 Go.Proofs Go.Proofs.Cells
set_option linter.unusedVariables false
set_option linter.unusedSimpArgs false
set_option maxRecDepth 100000
namespace Go.Proofs.YtpkijkmagnhciaaGreat
noncomputable section
theorem write_vld (l : List RegionT) (m : List Cell) (t v : Int) : Vld (writeMX l m t v) := by
  unfold writeMX
  cases decide (findX l t ≥ 0) && (R.get GR l (findX l t)).2.2.1
  · exact normX_vld m
  · exact putX_vld (normX_vld m)
theorem write_len (l : List RegionT) (m : List Cell) (t v : Int) : (writeMX l m t v).length ≤ m.length + 1 := by
  have h := normX_len m
  unfold writeMX
  cases decide (findX l t ≥ 0) && (R.get GR l (findX l t)).2.2.1
  · exact Nat.le_trans h (Nat.le_succ _)
  · exact Nat.le_trans (putX_len _ _) (by omega)
theorem do_inv (x : Cyc) (m : MacT) : (doX x m).2.1 = m.1 ∧ (Vld m.2.1 → Vld (doX x m).2.2.1) ∧ (doX x m).2.2.1.length ≤ m.2.1.length + 1 ∧
    (doX x m).2.2.2.1.length ≤ m.2.2.1.length ∧ (doX x m).2.2.2.2.length ≤ m.2.2.2.length + 1 := by
  unfold doX
  have hl := write_len m.1 m.2.1 x.2.1 x.2.2.1
  have hv := write_vld m.1 m.2.1 x.2.1 x.2.2.1
  cases x.1 == 1 || (x.1 == 2 || x.1 == 4)
  · cases x.1 == 3 || x.1 == 5
    · cases x.1 == 7
      · cases x.1 == 6 || (x.1 == 8 || x.1 == 9)
        · exact ⟨rfl, id, by simp, by simp, by simp⟩
        · exact ⟨rfl, id, by simp, by simp, by simp⟩
      · exact ⟨rfl, id, by simp, by simp, by simp⟩
    · exact ⟨rfl, fun _ => hv, hl, by simp, by simp⟩
  · exact ⟨rfl, id, by simp, by simp, by simp⟩
def pre (o : List (Int × Int)) (m : MacT) : MacT := (m.1, m.2.1, m.2.2.1, o ++ m.2.2.2)
theorem run_halt (n : Nat) (c : CpuT) (m : MacT) (u : Int) (h : c.2.2.2.2.1 = true) : runX n c m u = (c, m, u) := by
  cases n <;> simp [runX, h]
theorem run_succ (n : Nat) (c : CpuT) (m : MacT) (u : Int) : runX (n + 1) c m u = bif c.2.2.2.2.1 then (c, m, u) else runX n (stepX c 0 noL m).1 (stepX c 0 noL m).2.1 (u + 1) := rfl
theorem run_add : ∀ (n k : Nat) (c : CpuT) (m : MacT) (u : Int), runX (n + k) c m u = runX k (runX n c m u).1 (runX n c m u).2.1 (runX n c m u).2.2
  | 0, k, c, m, u => by rw [Nat.zero_add]; rfl
  | n + 1, k, c, m, u => by
    rw [show n + 1 + k = (n + k) + 1 by omega, run_succ, run_succ]
    cases h : c.2.2.2.2.1
    · simp only [cond_false]; exact run_add n k _ _ _
    · simp only [cond_true]; rw [run_halt k c m u h]
theorem go_inv (c : CpuT) (s : Int) : ∀ (n : Nat) (g : List Int) (m : MacT), (goX c s n g m).2.1 = m.1 ∧ (Vld m.2.1 → Vld (goX c s n g m).2.2.1) ∧ (goX c s n g m).2.2.1.length ≤ m.2.1.length + n ∧
    (goX c s n g m).2.2.2.1.length ≤ m.2.2.1.length ∧ (goX c s n g m).2.2.2.2.length ≤ m.2.2.2.length + n
  | 0, g, m => ⟨rfl, id, Nat.le_refl _, Nat.le_refl _, Nat.le_refl _⟩
  | n + 1, g, m => by
    unfold goX
    cases (nextX c s g).2
    · exact ⟨rfl, id, Nat.le_add_right _ _, Nat.le_refl _, Nat.le_add_right _ _⟩
    · have h1 := do_inv (nextX c s g).1 m
      have h2 := go_inv c s n (g ++ [(doX (nextX c s g).1 m).1]) (doX (nextX c s g).1 m).2
      exact ⟨h2.1.trans h1.1, fun h => h2.2.1 (h1.2.1 h), Nat.le_trans h2.2.2.1 (by omega), Nat.le_trans h2.2.2.2.1 h1.2.2.2.1, Nat.le_trans h2.2.2.2.2 (by omega)⟩
end
end Go.Proofs.YtpkijkmagnhciaaGreat
open Go Go.S3 Go.Proofs Go.Proofs.Cells
set_option linter.unusedVariables false
set_option linter.unusedSimpArgs false
set_option maxRecDepth 100000
namespace Go.Proofs.YtpkijkmagnhciaaGreat
noncomputable section
theorem cor (a b : Bool) : (bif a then a else b) = (a || b) := by cases a <;> rfl
theorem isn_ok (l : List Int) : (iN l.length == 0 || inRng 0 l.length) = true := by
  cases l with
  | nil => rfl
  | cons x l => simp [iN, inRng]
theorem isn_ok2 (l : List Int) : (iN l.length == 0 || (!inRng 0 l.length || decide (0 ≤ 1) && decide (1 ≤ iN l.length) && (decide (iN l.length = 0) || decide (iN l.length ≤ iN l.length)))) = true := by
  cases l with
  | nil => rfl
  | cons x l => simp [iN, inRng]; omega
theorem isn_get (l g : List Int) : (bif iN l.length == 0 then g ++ [0] else g ++ [R.get (R.int .u8) l 0]) = g ++ [l.getD 0 0] := by
  cases l with
  | nil => rfl
  | cons x l =>
    have : (iN (x :: l).length == 0) = false := by simp [iN]; omega
    rw [this]; rfl
theorem isn_tl (l : List Int) : (bif iN l.length == 0 then l else subL l 1 (iN l.length)) = l.drop 1 := by
  cases l with
  | nil => rfl
  | cons x l =>
    have : (iN (x :: l).length == 0) = false := by simp [iN]; omega
    rw [this]
    simp [subL, iN]
theorem goX_succ (c : CpuT) (s : Int) (n : Nat) (g : List Int) (m : MacT) : goX c s (n + 1) g m = bif (nextX c s g).2 then goX c s n (g ++ [(doX (nextX c s g).1 m).1]) (doX (nextX c s g).1 m).2 else (g, m) := rfl
structure Rm (rg : List RegionT) (m : List Cell) (outs : List (Int × Int)) (g : List Int) : Prop where
  r : smG rg = true
  m : smC m = true
  o : ∀ x, Nat.ble (outs ++ [x]).length most = true
  g : ∀ x, Nat.ble (g ++ [x]).length most = true
theorem iB_step (s g0 c0 cz rg m ins c l cz2 outs g) (h : Rm rg m outs g) :
    (qStepBL0T (s, g0, c0, cz, rg, m, ins, c, l, cz2, outs, g, ())).val = some (bif (nextX c s g).2 then
      Go1.cont (s, g0, c0, cz, rg, (doX (nextX c s g).1 (rg, m, ins, outs)).2.2.1, (doX (nextX c s g).1 (rg, m, ins, outs)).2.2.2.1, c, l, cz2, (doX (nextX c s g).1 (rg, m, ins, outs)).2.2.2.2, g ++ [(doX (nextX c s g).1 (rg, m, ins, outs)).1], ())
      else Go1.ret (s, g, c0, cz, rg, m, ins, c, l, finX c s g l, outs, g, ())) := by
  have i1 := isn_ok ins
  have i2 := isn_ok2 ins
  have i3 := isn_get ins g
  have i4 := isn_tl ins
  simp only [qStepBL0T, RT.val, cor, h.r, h.m, h.o, h.g, i1, i2, Bool.or_true, Bool.true_or, Bool.not_true, Bool.false_or, Bool.or_false, Bool.and_self, cond_true]
  cases (nextX c s g).2
  · rfl
  · simp only [Bool.not_true, cond_false, cond_true, i3, i4]
    unfold doX
    generalize (nextX c s g).1 = x
    cases x.1 == 1 || (x.1 == 2 || x.1 == 4)
    · cases x.1 == 3 || x.1 == 5
      · cases x.1 == 7
        · cases x.1 == 6 || (x.1 == 8 || x.1 == 9) <;> rfl
        · rfl
      · rfl
    · rfl
def gOfiB_run (a : Int × List Int × CpuT × CpuT × List RegionT × List Cell × List Int × CpuT × LnT × CpuT × List (Int × Int) × List Int × PUnit) : List Int := a.2.2.2.2.2.2.2.2.2.2.2.1
theorem iB_run (A : List Int × CpuT × CpuT × CpuT) (c : CpuT) (s : Int) (l : LnT) (M0 : MacT) (hr : smG M0.1 = true) (hm : M0.2.1.length + 20 ≤ most) (ho : M0.2.2.2.length + 20 ≤ most) :
    ∃ r, runF true qStepBL0T (fun _ => 100) (s, A.1, A.2.1, A.2.2.1, M0.1, M0.2.1, M0.2.2.1, c, l, A.2.2.2, M0.2.2.2, [], ()) = some r ∧ r = (true, s, (goX c s 6 [] M0).1, A.2.1, A.2.2.1, M0.1, (goX c s 6 [] M0).2.2.1, (goX c s 6 [] M0).2.2.2.1, c, l, finX c s (goX c s 6 [] M0).1 l, (goX c s 6 [] M0).2.2.2.2, (goX c s 6 [] M0).1, ()) := by
  have hms := mst
  obtain ⟨r, h1, h2⟩ := runF_ind (fl := true) (t := qStepBL0T) (fuel := fun _ => 100)
    (fun a => ∃ (g : List Int) (M : MacT), a = (s, A.1, A.2.1, A.2.2.1, M0.1, M.2.1, M.2.2.1, c, l, A.2.2.2, M.2.2.2, g, ()) ∧ M.1 = M0.1 ∧ g.length ≤ 5 ∧ goX c s (6 - g.length) g M = goX c s 6 [] M0 ∧ M.2.1.length ≤ M0.2.1.length + g.length ∧ M.2.2.2.length ≤ M0.2.2.2.length + g.length)
    (fun a => 6 - (gOfiB_run a).length) (fun r => r = (true, s, (goX c s 6 [] M0).1, A.2.1, A.2.2.1, M0.1, (goX c s 6 [] M0).2.2.1, (goX c s 6 [] M0).2.2.2.1, c, l, finX c s (goX c s 6 [] M0).1 l, (goX c s 6 [] M0).2.2.2.2, (goX c s 6 [] M0).1, ()))
    (by
      rintro a ⟨g, M, rfl, hM, hg, hR, hl, hq⟩
      have rm : Rm M0.1 M.2.1 M.2.2.2 g := ⟨hr, by rw [show smC M.2.1 = sm M.2.1 from rfl, sm_iff]; omega, fun x => by rw [Nat.ble_eq]; simp; omega, fun x => by rw [Nat.ble_eq]; simp; omega⟩
      have hs := iB_step s A.1 A.2.1 A.2.2.1 M0.1 M.2.1 M.2.2.1 c l A.2.2.2 M.2.2.2 g rm
      have e6 : 6 - g.length = (5 - g.length) + 1 := by omega
      rw [e6] at hR
      have hMe : M = (M0.1, M.2.1, M.2.2.1, M.2.2.2) := by rw [← hM]
      cases hn : (nextX c s g).2
      · right; right
        rw [hn, cond_false] at hs
        refine ⟨_, rfl, hs, ?_⟩
        rw [goX_succ c s (5 - g.length) g M, hn, cond_false] at hR
        rw [← hR]
      · left
        rw [hn, cond_true, ← hMe] at hs
        have h5 : g.length < 5 := by
          refine Nat.lt_of_not_le fun h => ?_
          rw [next_end c s g h] at hn; simp at hn
        have hd := do_inv (nextX c s g).1 M
        rw [goX_succ c s (5 - g.length) g M, hn, cond_true] at hR
        refine ⟨_, hs, ⟨g ++ [(doX (nextX c s g).1 M).1], (doX (nextX c s g).1 M).2, rfl, hd.1.trans hM, by simp; omega, ?_, ?_, ?_⟩, ?_⟩
        · rw [show 6 - (g ++ [(doX (nextX c s g).1 M).1]).length = 5 - g.length by simp only [List.length_append, List.length_singleton]; omega]; exact hR
        · have := hd.2.2.1; simp; omega
        · have := hd.2.2.2.2; simp; omega
        · simp [gOfiB_run]; omega)
    (s, A.1, A.2.1, A.2.2.1, M0.1, M0.2.1, M0.2.2.1, c, l, A.2.2.2, M0.2.2.2, [], ()) ⟨[], M0, rfl, rfl, by simp, rfl, by simp, by simp⟩ (by simp [gOfiB_run])
  exact ⟨r, h1, h2⟩
end
end Go.Proofs.YtpkijkmagnhciaaGreat
open Go Go.S3 Go.Proofs Go.Proofs.Cells
set_option linter.unusedVariables false
set_option linter.unusedSimpArgs false
set_option maxRecDepth 100000
namespace Go.Proofs.YtpkijkmagnhciaaGreat
noncomputable section
def czX : CpuT := (0, (0, 0, 0, 0, 0, 0, 0, (false, false, false, false, false, false, false), 0, 0), false, false, false, 0, false, false, false, false, false, false, false)
def startX (rg : List RegionT) (m : List Cell) (ins : List Int) : MacT := (rg, normX m, ins, [])
def limK (k : Int) : Int := if 10000 < k then 10000 else k
def runR (c : CpuT) (rg : List RegionT) (m : List Cell) (ins : List Int) (k : Int) : CpuT × List Cell × List (Int × Int) × Int :=
  let r := runX (limK k).toNat c (startX rg m ins) 0
  (r.1, r.2.1.2.1, r.2.1.2.2.2, r.2.2)
theorem i_run (c : CpuT) (rg : List RegionT) (m : List Cell) (ins : List Int) (k : Int) (hr : smG rg = true) (hm : m.length + 100000 ≤ most) :
    iRunC c rg m ins k = true ∧ iRun c rg m ins k = runR c rg m ins k := by
  have hms := mst
  have hl := normX_len m
  have hs : smC m = true := by show sm m = true; rw [sm_iff]; omega
  have hk : (limK k).toNat ≤ 10000 := by unfold limK; split <;> omega
  obtain ⟨r, h1, h2⟩ := runF_ind (fl := false) (t := iRunL0T) (fuel := fun _ => 20000)
    (fun a => ∃ (n : Nat) (c' : CpuT) (M : MacT) (u : Nat), a = (k, (u : Int), c', czX, rg, M.2.1, M.2.2.1, M.2.2.2, ()) ∧ M.1 = rg ∧ n + u = (limK k).toNat ∧ runX n c' M u = runX (limK k).toNat c (startX rg m ins) 0 ∧ M.2.1.length ≤ m.length + 6 * u ∧ M.2.2.2.length ≤ 6 * u)
    (fun a => 10001 - Int.toNat a.2.1) (fun r => ∃ rest, r = (false, (k, (runX (limK k).toNat c (startX rg m ins) 0).2.2, (runX (limK k).toNat c (startX rg m ins) 0).1, czX, rg, (runX (limK k).toNat c (startX rg m ins) 0).2.1.2.1, rest, (runX (limK k).toNat c (startX rg m ins) 0).2.1.2.2.2, ())))
    (by
      rintro a ⟨n, c', M, u, rfl, hM, hn, hR, hq1, hq2⟩
      have hMe : M = (rg, M.2.1, M.2.2.1, M.2.2.2) := by rw [← hM]
      have hlt : decide ((u : Int) < limK k) = decide (0 < n) := by
        by_cases h0 : 0 < n
        · rw [decide_eq_true h0, decide_eq_true]; omega
        · rw [decide_eq_false h0, decide_eq_false]; omega
      cases n with
      | zero =>
        right; left
        refine ⟨(k, (u : Int), c', czX, rg, M.2.1, M.2.2.1, M.2.2.2, ()), ?_, M.2.2.1, ?_⟩
        · have : (decide ((u : Int) < if 10000 < k then 10000 else k) && !c'.2.2.2.2.1) = false := by
            show (decide ((u : Int) < limK k) && _) = false
            rw [hlt]; rfl
          simp only [iRunL0T, RT.val, this, cond_false]
        · rw [← hR]; rfl
      | succ n =>
        rw [run_succ] at hR
        cases hh : c'.2.2.2.2.1 with
        | true =>
          right; left
          refine ⟨(k, (u : Int), c', czX, rg, M.2.1, M.2.2.1, M.2.2.2, ()), ?_, M.2.2.1, ?_⟩
          · have : (decide ((u : Int) < if 10000 < k then 10000 else k) && !c'.2.2.2.2.1) = false := by rw [hh]; simp
            simp only [iRunL0T, RT.val, this, cond_false]
          · rw [hh, cond_true] at hR
            rw [← hR]
        | false =>
          left
          rw [hh, cond_false] at hR
          obtain ⟨r, h1, h2⟩ := iB_run ([], c', czX, czX) (rAccept c' 0) 0 noL M (by rw [hM]; exact hr) (by omega) (by omega)
          subst h2
          rw [hM] at h1
          simp only [noL, czX] at h1
          have hc : (decide ((u : Int) < if 10000 < k then 10000 else k) && !c'.2.2.2.2.1) = true := by
            show (decide ((u : Int) < limK k) && _) = true
            rw [hlt, hh]; simp
          have gi := go_inv (rAccept c' 0) 0 6 [] M
          refine ⟨(k, ((u + 1 : Nat) : Int), (stepX c' 0 noL M).1, czX, rg, (stepX c' 0 noL M).2.1.2.1, (stepX c' 0 noL M).2.1.2.2.1, (stepX c' 0 noL M).2.1.2.2.2, ()), ?_, ⟨n, (stepX c' 0 noL M).1, (stepX c' 0 noL M).2.1, u + 1, rfl, ?_, by omega, ?_, ?_, ?_⟩, ?_⟩
          · simp only [iRunL0T, RT.val, hc, czX, h1, okB, getO, cond_true]
            rw [wadd1 u (by omega)]
            rfl
          · exact gi.1.trans hM
          · exact hR
          · have := gi.2.2.1; simp only [stepX]; omega
          · have := gi.2.2.2.2; simp only [stepX]; omega
          · simp only; omega)
    (k, 0, c, czX, rg, normX m, ins, [], ()) ⟨(limK k).toNat, c, startX rg m ins, 0, rfl, rfl, by omega, rfl, by show (normX m).length ≤ _; omega, by simp [startX]⟩ (by simp)
  obtain ⟨rest, rfl⟩ := h2
  simp only [czX] at h1
  have hv : (iRunT c rg m ins k).val = some (runR c rg m ins k) := by
    simp only [iRunT, RT.val, hs, h1, okB, getO, cond_true]
    rfl
  exact ⟨by simp only [iRunC, hv]; rfl, by simp only [iRun, hv, getO]⟩
end
end Go.Proofs.YtpkijkmagnhciaaGreat
set_option linter.unusedSimpArgs false
open Go Go.S3 Go.Proofs
set_option linter.unusedVariables false
set_option maxRecDepth 100000
namespace Go.Proofs.YtpkijkmagnhciaaGreat
noncomputable section
end
end Go.Proofs.YtpkijkmagnhciaaGreat
set_option linter.unusedSimpArgs false
open Go Go.S3 Go.Proofs
set_option linter.unusedVariables false
set_option maxRecDepth 100000
namespace Go.Proofs.YtpkijkmagnhciaaGreat
noncomputable section
end
end Go.Proofs.YtpkijkmagnhciaaGreat
set_option linter.unusedSimpArgs false
open Go Go.S3 Go.Proofs
set_option linter.unusedVariables false
set_option maxRecDepth 100000
namespace Go.Proofs.YtpkijkmagnhciaaGreat
noncomputable section
end
end Go.Proofs.YtpkijkmagnhciaaGreat
set_option linter.unusedSimpArgs false
open Go Go.S3 Go.Proofs
set_option linter.unusedVariables false
set_option maxRecDepth 100000
namespace Go.Proofs.YtpkijkmagnhciaaGreat
noncomputable section
end
end Go.Proofs.YtpkijkmagnhciaaGreat
open Go Go.S3 Go.Proofs Go.Proofs.Cells
set_option linter.unusedVariables false
set_option linter.unusedSimpArgs false
set_option maxRecDepth 100000
namespace Go.Proofs.YtpkijkmagnhciaaGreat
noncomputable section
end
end Go.Proofs.YtpkijkmagnhciaaGreat
set_option linter.unusedSimpArgs false
open Go Go.S3 Go.Proofs
set_option linter.unusedVariables false
set_option maxRecDepth 100000
namespace Go.Proofs.YtpkijkmagnhciaaGreat
noncomputable section
end
end Go.Proofs.YtpkijkmagnhciaaGreat
open Go Go.S3 Go.Proofs Go.Proofs.Cells
set_option linter.unusedVariables false
set_option linter.unusedSimpArgs false
set_option maxRecDepth 100000
namespace Go.Proofs.YtpkijkmagnhciaaGreat
noncomputable section
def roomI (m : List (Int × Int)) : Bool := Nat.ble (m.length + 100000) most
theorem roomI_iff {m : List (Int × Int)} : roomI m = true ↔ m.length + 100000 ≤ most := by simp [roomI]
def iRun1E : Entry := pureE iRunTs iRunRs (fun a => some (smG a.2.1 && roomI a.2.2.1)) (fun a => runR a.1 a.2.1 a.2.2.1 a.2.2.2.1 a.2.2.2.2)
theorem iRun1_ok : EntryOk Tryz.prog 24 iRun1E := tight iRun_ok fun a h => by
  rw [Bool.and_eq_true] at h
  exact i_run a.1 a.2.1 a.2.2.1 a.2.2.2.1 a.2.2.2.2 h.1 (roomI_iff.1 h.2)
end
end Go.Proofs.YtpkijkmagnhciaaGreat
set_option linter.unusedSimpArgs false
open Go Go.S3 Go.Proofs
set_option linter.unusedVariables false
set_option maxRecDepth 100000
namespace Go.Proofs.YtpkijkmagnhciaaGreat
noncomputable section
abbrev kRamTs : List Sh := []
abbrev kRamRs : Rs := Rs.one (Sh.one rcRG)
def kRamT : RT (List (Int × Int × Bool × Int)) :=
  .leaf ([(0, 65535, true, 0)])
def kRam : List (Int × Int × Bool × Int) := (kRamT ).val
def kRamE : Entry := pureE kRamTs kRamRs (fun _ => none) (fun a => kRam )
theorem kRam_ok : EntryOk Tryz.prog 28 kRamE :=
  pure_tot (P := Tryz.prog) (n := 1) (k := 8) (l := []) (ol := []) trivial Tryz.func28 rfl (by kernel_rfl) Tryz.call28 trivial (ts := kRamTs) (rs := kRamRs) (t := fun a => kRamT ) (fun a => by kernel_rfl)
abbrev kKnTs : List Sh := []
abbrev kKnRs : Rs := Rs.one (Sh.one R.bool)
def kKnT : RT (Option (Bool)) :=
  let x1 : List Int := [62, 5, 198, 7, 50, 16, 0, 211, 9, 118]
  let x2 : List (Int × Int) := loadX 0 x1
  let x3 : TC × List (Int × Int) × List (Int × Int) × Int := runR (1, (0, 0, 0, 0, 0, 0, 0, (false, false, false, false, false, false, false), 0, 0), false, false, false, 0, false, false, false, false, false, false, false) kRam x2 [] 100
  let x4 : TR × Bool × Bool × Bool × Int × Bool × Bool × Bool × Bool × Bool × Bool × Bool := x3.1.2
  let x5 : Bool := !x4.1.1 == 12
  let x6 : Bool := !x4.2.2.2.1
  let x7 : List (Int × Int) × List (Int × Int) × Int := x3.2
  let x8 : List (Int × Int) := x7.1
  let x9 : Bool := x5 || (x6 || smC x8)
  let x10 : List (Int × Int) × Int := x7.2
  .br (smB x1)
  (.br (smG kRam && roomI x2)
   (.br (!x9 || (x5 || (x6 || (!Cells.getX x8 16 == 12 || (!x10.2 == 5 || jOutsC x10.1 [(9, 12)])))))
    (.br (x9)
     (.leaf (some (true)))
     (.leaf none))
    (.leaf none))
   (.leaf none))
  (.leaf none)
def kKn : Bool := getO kKnRs.dflt (kKnT ).val
def kKnC : Bool := okB (kKnT ).val
def kKnE : Entry := pureE kKnTs kKnRs (fun a => some (kKnC )) (fun a => kKn )
theorem kKn_ok : EntryOk Tryz.prog 22 kKnE :=
  pure_part (P := Tryz.prog) (n := 127) (k := 8) (l := [(24, iRun1E), (26, jOutsE), (27, rLoad1E), (28, kRamE), (29, rGetM1E)]) (ol := []) ⟨iRun1_ok, jOuts_ok, rLoad1_ok, kRam_ok, rGetM1_ok, trivial⟩ Tryz.func22 rfl (by kernel_rfl) Tryz.call22 trivial (ts := kKnTs) (rs := kKnRs) (t := fun a => kKnT ) (fun a => by kernel_rfl)
def iwtstatemake_FromE : Entry := .tree (evFunc (envX Tryz.prog [] [] 7 8) Tryz.f12)
theorem iwtstatemake_From_ok : EntryOk Tryz.prog 12 iwtstatemake_FromE := inl_ok (P := Tryz.prog) (n := 7) (k := 8) (l := []) (ol := []) trivial Tryz.func12 rfl (by kernel_rfl) Tryz.call12 trivial
abbrev lAddsTs : List Sh := [Sh.one (R.sl (R.int IntKind.i64)), Sh.one (R.int IntKind.u8), Sh.one (R.int IntKind.u8)]
abbrev lAddsRs : Rs := Rs.one (Sh.one R.bool)
def lAddsT (n : List Int) (a : Int) (b : Int) : RT (Option (Bool)) :=
  let x1 : List Int := [17, b, 0, 62, a, 183, 202, 14, 0, 25, 61, 195, 5, 0, 118]
  let x2 : Bool := smB x1
  let x3 : List (Int × Int) := loadX 0 x1
  let x4 : TR × Bool × Bool × Bool × Int × Bool × Bool × Bool × Bool × Bool × Bool × Bool := (runR ((nChip (n, 0)).1, (0, 0, 0, 0, 0, 0, 0, (false, false, false, false, false, false, false), 0, 0), false, false, false, 0, false, false, false, false, false, false, false) kRam x3 [] 2000).1.2
  let x5 : Bool := x4.2.2.2.1
  let x6 : Int × Int × TF × Int × Int := x4.1.2.2.2.2.2
  let x7 : Bool := x6.1 == IntKind.u8.wrap (shrI IntKind.i64 (IntKind.i64.wrap (IntKind.i64.wrap a * IntKind.i64.wrap b)) 8)
  let x8 : Bool := x6.2.1 == IntKind.u8.wrap (a * b)
  .br (nChipC (n, 0))
  (.br (!x2 || smG kRam && roomI x3)
   (.br (x2)
    (.br (!x5 || (!x7 || (!x8 || kKnC)))
     (.leaf (some (x5 && (x7 && (x8 && kKn)))))
     (.leaf none))
    (.leaf none))
   (.leaf none))
  (.leaf none)
def lAdds (n : List Int) (a : Int) (b : Int) : Bool := getO lAddsRs.dflt (lAddsT n a b).val
def lAddsC (n : List Int) (a : Int) (b : Int) : Bool := okB (lAddsT n a b).val
def lAddsE : Entry := pureE lAddsTs lAddsRs (fun a => some (lAddsC a.1 a.2.1 a.2.2)) (fun a => lAdds a.1 a.2.1 a.2.2)
theorem lAdds_ok : EntryOk Tryz.prog 7 lAddsE :=
  pure_part (P := Tryz.prog) (n := 8191) (k := 8) (l := [(12, iwtstatemake_FromE), (22, kKnE), (24, iRun1E), (27, rLoad1E), (28, kRamE), (30, nChipE)]) (ol := []) ⟨iwtstatemake_From_ok, kKn_ok, iRun1_ok, rLoad1_ok, kRam_ok, nChip_ok, trivial⟩ Tryz.func7 rfl (by kernel_rfl) Tryz.call7 trivial (ts := lAddsTs) (rs := lAddsRs) (t := fun a => lAddsT a.1 a.2.1 a.2.2) (fun a => by kernel_rfl)
abbrev lLimitsTs : List Sh := [Sh.one (R.sl (R.int IntKind.i64)), Sh.one (R.int IntKind.i64)]
abbrev lLimitsRs : Rs := Rs.one (Sh.one R.bool)
def lLimitsT (n : List Int) (k : Int) : RT (Option (Bool)) :=
  let x1 : TC × List (Int × Int) × List (Int × Int) × Int := runR ((nChip (n, 0)).1, (0, 0, 0, 0, 0, 0, 0, (false, false, false, false, false, false, false), 0, 0), false, false, false, 0, false, false, false, false, false, false, false) kRam [] [] (IntKind.i64.wrap (9999 + mPlace k 3))
  let x2 : TC := x1.1
  let x3 : TR × Bool × Bool × Bool × Int × Bool × Bool × Bool × Bool × Bool × Bool × Bool := x2.2
  let x4 : TR := x3.1
  let x5 : Int × Int × Int × Int × Int × Int × TF × Int × Int := x4.2
  let x6 : Int × Int × Int × Int × Int × TF × Int × Int := x5.2
  let x7 : Int × Int × Int × Int × TF × Int × Int := x6.2
  let x8 : Int × Int × Int × TF × Int × Int := x7.2
  let x9 : Int × Int × TF × Int × Int := x8.2
  let x10 : Int × TF × Int × Int := x9.2
  let x11 : TF × Int × Int := x10.2
  let x12 : TF := x11.1
  let x13 : Bool × Bool × Bool × Bool × Bool × Bool := x12.2
  let x14 : Bool × Bool × Bool × Bool × Bool := x13.2
  let x15 : Bool × Bool × Bool × Bool := x14.2
  let x16 : Bool × Bool × Bool := x15.2
  let x17 : Bool × Bool := x16.2
  let x18 : Int × Int := x11.2
  let x19 : Int := if 10000 < IntKind.i64.wrap (9999 + mPlace k 3) then 10000 else IntKind.i64.wrap (9999 + mPlace k 3)
  let x20 : Bool × Bool × Bool × Int × Bool × Bool × Bool × Bool × Bool × Bool × Bool := x3.2
  let x21 : Bool × Bool × Int × Bool × Bool × Bool × Bool × Bool × Bool × Bool := x20.2
  let x22 : Bool × Int × Bool × Bool × Bool × Bool × Bool × Bool × Bool := x21.2
  let x23 : Int × Bool × Bool × Bool × Bool × Bool × Bool × Bool := x22.2
  let x24 : TF := x23.2
  let x25 : Bool × Bool × Bool × Bool × Bool × Bool := x24.2
  let x26 : Bool × Bool × Bool × Bool × Bool := x25.2
  let x27 : Bool × Bool × Bool × Bool := x26.2
  let x28 : Bool × Bool × Bool := x27.2
  let x29 : Bool × Bool := x28.2
  let x30 : Bool := x2.1 == (nChip (n, 0)).1 && (x4.1 == 0 && (x5.1 == 0 && (x6.1 == 0 && (x7.1 == 0 && (x8.1 == 0 && (x9.1 == 0 && (x10.1 == 0 && (x12.1 == false && (x13.1 == false && (x14.1 == false && (x15.1 == false && (x16.1 == false && (x17.1 == false && (x17.2 == false && (x18.1 == 0 && (x18.2 == IntKind.u16.wrap x19 && (x20.1 == false && (x21.1 == false && (x22.1 == false && (x23.1 == 0 && (x24.1 == false && (x25.1 == false && (x26.1 == false && (x27.1 == false && (x28.1 == false && (x29.1 == false && (x29.2 == false && true)))))))))))))))))))))))))))
  let x31 : List (Int × Int) × List (Int × Int) × Int := x1.2
  let x32 : List (Int × Int) × Int := x31.2
  let x33 : Bool := x32.2 == x19
  let x34 : Bool := IntKind.i64.wrap (iN (List.length x31.1) + iN (List.length x32.1)) == 0
  .br (mPlaceC k 3)
  (.br (nChipC (n, 0))
   (.br (smG kRam && roomI [])
    (.br (!x30 || (!x33 || (!x34 || kKnC)))
     (.leaf (some (x30 && (x33 && (x34 && kKn)))))
     (.leaf none))
    (.leaf none))
   (.leaf none))
  (.leaf none)
def lLimits (n : List Int) (k : Int) : Bool := getO lLimitsRs.dflt (lLimitsT n k).val
def lLimitsC (n : List Int) (k : Int) : Bool := okB (lLimitsT n k).val
def lLimitsE : Entry := pureE lLimitsTs lLimitsRs (fun a => some (lLimitsC a.1 a.2)) (fun a => lLimits a.1 a.2)
theorem lLimits_ok : EntryOk Tryz.prog 8 lLimitsE :=
  pure_part (P := Tryz.prog) (n := 2047) (k := 8) (l := [(12, iwtstatemake_FromE), (15, mPlaceE), (22, kKnE), (24, iRun1E), (28, kRamE), (30, nChipE)]) (ol := []) ⟨iwtstatemake_From_ok, mPlace_ok, kKn_ok, iRun1_ok, kRam_ok, nChip_ok, trivial⟩ Tryz.func8 rfl (by kernel_rfl) Tryz.call8 trivial (ts := lLimitsTs) (rs := lLimitsRs) (t := fun a => lLimitsT a.1 a.2) (fun a => by kernel_rfl)
end
end Go.Proofs.YtpkijkmagnhciaaGreat
open Go Go.S3 Go.Proofs Go.Proofs.Cells
set_option linter.unusedVariables false
set_option linter.unusedSimpArgs false
set_option maxRecDepth 100000
namespace Go.Proofs.YtpkijkmagnhciaaGreat
noncomputable section
theorem dec_eq {op : Int} {i : InsT} (h2 : rDecode 2 op = i) (h0 : rDecode 0 op = i) (c : Int) : rDecode c op = i := by
  by_cases h : c = 2
  · rw [h, h2]
  · rw [rdec_chip' c op h, h0]
theorem acc0 (c : CpuT) : rAccept c 0 = c := rfl
theorem pick_cs (a : Cyc) (b : List Cyc) (n : Nat) : pick (a :: b) (n + 1) = pick b n := by simp [pick]
theorem next0 (c : CpuT) : nextX c 0 [] = ((1, pcOf c, 0, 4), true) := rfl
theorem next1 (c : CpuT) (o : Int) (l : List Int) {i : InsT} (h : rDecode c.1 o = i) : nextX c 0 (o :: l) = pick (bodyX c false (o :: l) i) l.length := by
  subst h
  exact pick_cs (1, pcOf c, 0, 4) (bodyX c false (o :: l) (rDecode c.1 o)) l.length
theorem go_prefix (c : CpuT) (s : Int) : ∀ (n : Nat) (g : List Int) (m : MacT), g <+: (goX c s n g m).1
  | 0, g, m => List.prefix_refl g
  | n + 1, g, m => by
    unfold goX
    cases (nextX c s g).2
    · exact List.prefix_refl g
    · exact (List.prefix_append g _).trans (go_prefix c s n _ _)
theorem step_of (c : CpuT) (m : MacT) (l : LnT) {o : Int} {i : InsT} (h : readMX m.1 m.2.1 (pcOf c) = o) (hi : rDecode c.1 o = i) :
    stepX c 0 l m = (finI c false (goX c 0 5 [o] m).1 l i, (goX c 0 5 [o] m).2, (goX c 0 5 [o] m).1) := by
  have h6 : goX c 0 6 [] m = goX c 0 5 [o] m := by
    conv => lhs; unfold goX
    rw [next0]
    simp only [cond_true, List.nil_append]
    have : doX (1, pcOf c, 0, 4) m = (o, m) := by rw [← h]; rfl
    rw [this]
  have hp := go_prefix c 0 5 [o] m
  unfold stepX
  rw [acc0, h6]
  have hd : (goX c 0 5 [o] m).1.getD 0 0 = o := by
    obtain ⟨t, ht⟩ := hp
    rw [← ht]; rfl
  have hf : finX c 0 (goX c 0 5 [o] m).1 l = finI c false (goX c 0 5 [o] m).1 l i := by
    show finI c (0 == 5) _ l (rDecode c.1 ((goX c 0 5 [o] m).1.getD 0 0)) = _
    rw [hd, hi]; rfl
  rw [hf]
theorem go_more (c : CpuT) (n : Nat) (g : List Int) (m : MacT) {x : Cyc} (h : nextX c 0 g = (x, true)) : goX c 0 (n + 1) g m = goX c 0 n (g ++ [(doX x m).1]) (doX x m).2 := by
  conv => lhs; unfold goX
  rw [h]; rfl
theorem go_stop (c : CpuT) (n : Nat) (g : List Int) (m : MacT) (h : (nextX c 0 g).2 = false) : goX c 0 n g m = (g, m) := by
  cases n with
  | zero => rfl
  | succ n => unfold goX; rw [h]; rfl
section
variable {c : CpuT} {m : MacT} {o : Int} {i : InsT} (hi : rDecode c.1 o = i)
def opM (c : CpuT) (m : MacT) (k : Int) : Int := readMX m.1 m.2.1 (IntKind.wrap .u16 (pcOf c + IntKind.wrap .u16 k))
include hi
theorem go0 (hb : ∀ g, bodyX c false g i = []) : goX c 0 5 [o] m = ([o], m) :=
  go_stop c 5 [o] m (by rw [next1 c o [] hi, hb]; rfl)
theorem go1 (hb : ∀ g, bodyX c false g i = [opC c false 1]) : goX c 0 5 [o] m = ([o, opM c m 1], m) := by
  rw [go_more c 4 [o] m (x := opC c false 1) (by rw [next1 c o [] hi, hb]; rfl)]
  exact go_stop c 4 _ _ (by show (nextX c 0 (o :: [opM c m 1])).2 = false; rw [next1 c o _ hi, hb]; rfl)
theorem go2 (hb : ∀ g, bodyX c false g i = [opC c false 1, opC c false 2]) : goX c 0 5 [o] m = ([o, opM c m 1, opM c m 2], m) := by
  rw [go_more c 4 [o] m (x := opC c false 1) (by rw [next1 c o [] hi, hb]; rfl)]
  show goX c 0 4 (o :: [opM c m 1]) m = _
  rw [go_more c 3 _ m (x := opC c false 2) (by rw [next1 c o _ hi, hb]; rfl)]
  exact go_stop c 3 _ _ (by show (nextX c 0 (o :: [opM c m 1, opM c m 2])).2 = false; rw [next1 c o _ hi, hb]; rfl)
theorem goi2 (hb : ∀ g, bodyX c false g i = [idleX c, idleX c]) : goX c 0 5 [o] m = ([o, 0, 0], m) := by
  rw [go_more c 4 [o] m (x := idleX c) (by rw [next1 c o [] hi, hb]; rfl)]
  show goX c 0 4 (o :: [0]) m = _
  rw [go_more c 3 _ m (x := idleX c) (by rw [next1 c o _ hi, hb]; rfl)]
  exact go_stop c 3 _ _ (by show (nextX c 0 (o :: [0, 0])).2 = false; rw [next1 c o _ hi, hb]; rfl)
theorem goh (hb : ∀ g, bodyX c false g i = [(10, pcOf c, 0, 3)]) : goX c 0 5 [o] m = ([o, 0], m) := by
  rw [go_more c 4 [o] m (x := (10, pcOf c, 0, 3)) (by rw [next1 c o [] hi, hb]; rfl)]
  exact go_stop c 4 _ _ (by show (nextX c 0 (o :: [0])).2 = false; rw [next1 c o _ hi, hb]; rfl)
end
def ramX : List RegionT := [(0, 65535, true, 0)]
theorem ram_find {t : Int} (h0 : 0 ≤ t) (h1 : t ≤ 65535) : findX ramX t = 0 := by
  have : ramX.findIdx (hitB t) = 0 := by simp [ramX, hitB, List.findIdx_cons, h0, h1]
  unfold findX
  rw [this]; rfl
theorem ram_read {m : List Cell} {t : Int} (h0 : 0 ≤ t) (h1 : t ≤ 65535) : readMX ramX m t = getX m t := by
  simp [readMX, ram_find h0 h1]
theorem d00 : ∀ c, rDecode c 0 = (1, 1, 0, 0, 0, 0, 0, 0) := dec_eq (by kernel_rfl) (by kernel_rfl)
def cpuK (chip pc : Int) : CpuT := (chip, (0, 0, 0, 0, 0, 0, 0, (false, false, false, false, false, false, false), 0, pc), false, false, false, 0, false, false, false, false, false, false, false)
theorem nop_step (chip : Int) (k : Nat) (hk : k < 20000) : stepX (cpuK chip k) 0 noL (ramX, [], [], []) = (cpuK chip (k + 1 : Nat), (ramX, [], [], []), [0]) := by
  rw [step_of (cpuK chip k) (ramX, [], [], []) noL (o := 0) (by show readMX ramX [] (k : Int) = 0; rw [ram_read (by omega) (by omega)]; rfl) (d00 _), go0 (d00 _) (fun g => rfl)]
  have e : IntKind.wrap .u16 ((k : Int) + IntKind.wrap .u16 1) = ((k + 1 : Nat) : Int) := by
    rw [show IntKind.wrap .u16 1 = 1 from rfl, show (k : Int) + 1 = ((k + 1 : Nat) : Int) by omega, w16 (by omega)]
  show (((chip, (0, 0, 0, 0, 0, 0, 0, (false, false, false, false, false, false, false), 0, IntKind.wrap .u16 ((k : Int) + IntKind.wrap .u16 1)), false, false, false, 0, false, false, false, false, false, false, false) : CpuT), _, _) = _
  rw [e]; rfl
theorem nop_run (chip : Int) : ∀ (n k : Nat) (u : Int), k + n ≤ 20000 → runX n (cpuK chip k) (ramX, [], [], []) u = (cpuK chip (k + n : Nat), (ramX, [], [], []), u + n)
  | 0, k, u, h => by simp [runX]
  | n + 1, k, u, h => by
    unfold runX
    rw [nop_step chip k (by omega)]
    have := nop_run chip n (k + 1) (u + 1) (by omega)
    show runX n _ _ _ = _
    rw [this, show k + 1 + n = k + (n + 1) by omega, show u + 1 + (n : Int) = u + ((n + 1 : Nat) : Int) by omega]
end
end Go.Proofs.YtpkijkmagnhciaaGreat
open Go Go.S3 Go.Proofs Go.Proofs.Cells
set_option linter.unusedVariables false
set_option linter.unusedSimpArgs false
set_option maxRecDepth 100000
namespace Go.Proofs.YtpkijkmagnhciaaGreat
noncomputable section
theorem load_el (t : Int) (b : List Int) (n i : Nat) (h : i < n) : el (loadL t b n) i = (IntKind.wrap .u16 (t + IntKind.wrap .u16 (i : Int)), b.getD i 0) := by
  simp [el, loadL, h]
theorem load_get (t : Int) (b : List Int) (hb : b.length ≤ 300) (i : Nat) (hi : i < b.length) : getX (loadX t b) (IntKind.wrap .u16 (t + IntKind.wrap .u16 (i : Int))) = b.getD i 0 := by
  unfold loadX
  rw [normX_get]
  have hl := loadL_len t b b.length
  have e := load_el t b b.length i hi
  have h0 := getX_at (m := loadL t b b.length) (t := IntKind.wrap .u16 (t + IntKind.wrap .u16 (i : Int))) (i := i) (by rw [hl]; exact hi) (congrArg Prod.fst e) (fun k h1 h2 => by
    rw [hl] at h2
    rw [load_el t b b.length k h2]
    simp only [wrap_u16]
    omega)
  rw [h0, e]
theorem rd0 (p : List Int) (hp : p.length ≤ 300) (k : Nat) (hk : k < p.length) : readMX ramX (loadX 0 p) (k : Int) = p.getD k 0 := by
  rw [ram_read (by omega) (by omega)]
  have := load_get 0 p hp k hk
  rw [w16 (by omega), Int.zero_add, w16 (by omega)] at this
  exact this
def mulP (a b : Int) : List Int := [17, b, 0, 62, a, 183, 202, 14, 0, 25, 61, 195, 5, 0, 118]
def mulM (a b : Int) : MacT := (ramX, loadX 0 (mulP a b), [], [])
theorem mul_len (a b : Int) : (mulP a b).length = 15 := rfl
theorem mul_m (a b : Int) : mulM a b = (ramX, loadX 0 (mulP a b), [], []) := rfl
theorem mul_rd (a b : Int) (k : Nat) (hk : k < 15) : readMX (mulM a b).1 (mulM a b).2.1 (k : Int) = (mulP a b).getD k 0 := by
  have h1 : (mulP a b).length ≤ 300 := by rw [mul_len]; omega
  have h2 : k < (mulP a b).length := by rw [mul_len]; exact hk
  have h := rd0 (mulP a b) h1 k h2
  rw [mul_m]
  generalize mulP a b = p at h ⊢
  exact h
theorem op_at (m : MacT) (c : CpuT) (p k : Nat) (hc : pcOf c = (p : Int)) (hk : p + k < 65536) : opM c m (k : Int) = readMX m.1 m.2.1 ((p + k : Nat) : Int) := by
  unfold opM
  rw [hc, w16 (by omega), show (p : Int) + (k : Int) = ((p + k : Nat) : Int) by omega, w16 hk]
theorem mul_op (a b : Int) (c : CpuT) (p k : Nat) (hc : pcOf c = (p : Int)) (hk : p + k < 15) : opM c (mulM a b) (k : Int) = (mulP a b).getD (p + k) 0 :=
  (op_at (mulM a b) c p k hc (by omega)).trans (mul_rd a b (p + k) hk)
theorem i80 : inR .u8 0 := ⟨by decide, by decide⟩
def cA (chip a d e : Int) (v : Nat) (f : FlgT) (pc : Int) (h : Bool) : CpuT := (chip, (a, 0, 0, d, e, ((v / 256 : Nat) : Int), ((v % 256 : Nat) : Int), f, 0, pc), false, false, h, 0, false, false, false, false, false, false, false)
theorem behind (chip a d e : Int) (v : Nat) (f : FlgT) (p : Nat) (i : InsT) (n : Nat) (hn : i.2.1 = n) (hp : p + n < 1000) : behindX (cA chip a d e v f p false) false i = ((p + n : Nat) : Int) := by
  show IntKind.wrap .u16 ((p : Int) + IntKind.wrap .u16 i.2.1) = _
  rw [hn, w16 (by omega), show (p : Int) + (n : Int) = ((p + n : Nat) : Int) by omega, w16 (by omega)]
theorem hi_of (v : Nat) (h : v < 65536) : IntKind.wrap .u8 (shrI .u16 (v : Int) 8) = ((v / 256 : Nat) : Int) := by
  have : shrI .u16 (v : Int) 8 = ((v / 256 : Nat) : Int) := by
    simp only [shrI]
    have : ((2 : Int) ^ min (8 : Int).toNat IntKind.u16.bits) = 256 := by decide
    rw [this, Int.fdiv_eq_ediv_of_nonneg _ (by decide)]; omega
  rw [this]
  simp [IntKind.wrap, IntKind.signed, IntKind.bits]; omega
theorem lo_of (v : Nat) : IntKind.wrap .u8 (v : Int) = ((v % 256 : Nat) : Int) := by
  simp [IntKind.wrap, IntKind.signed, IntKind.bits]
theorem u8n (a : Nat) (h : a < 256) : inR .u8 (a : Int) := by rw [inR_u8]; omega
theorem join_of (v : Nat) (h : v < 65536) : rJoin ((v / 256 : Nat) : Int) ((v % 256 : Nat) : Int) = v := by
  rw [join_val (u8n _ (by omega)) (u8n _ (by omega))]; omega
theorem d11 : ∀ c, rDecode c 17 = (4, 3, 0, 0, 1, 0, 0, 0) := dec_eq (by kernel_rfl) (by kernel_rfl)
theorem d3e : ∀ c, rDecode c 62 = (3, 2, 7, 0, 0, 0, 0, 0) := dec_eq (by kernel_rfl) (by kernel_rfl)
theorem db7 : ∀ c, rDecode c 183 = (12, 1, 0, 7, 0, 6, 0, 0) := dec_eq (by kernel_rfl) (by kernel_rfl)
theorem dca : ∀ c, rDecode c 202 = (24, 3, 0, 0, 0, 0, 1, 0) := dec_eq (by kernel_rfl) (by kernel_rfl)
theorem d19 : ∀ c, rDecode c 25 = (18, 1, 0, 0, 1, 0, 0, 0) := dec_eq (by kernel_rfl) (by kernel_rfl)
theorem d3d : ∀ c, rDecode c 61 = (15, 1, 7, 0, 0, 0, 0, 0) := dec_eq (by kernel_rfl) (by kernel_rfl)
theorem dc3 : ∀ c, rDecode c 195 = (24, 3, 0, 0, 0, 0, 11, 0) := dec_eq (by kernel_rfl) (by kernel_rfl)
theorem d76 : ∀ c, rDecode c 118 = (37, 1, 0, 0, 0, 0, 0, 0) := dec_eq (by kernel_rfl) (by kernel_rfl)
theorem sp1 (A B C D E H L : Int) (F : FlgT) (S P v : Int) : rSetPair (A, B, C, D, E, H, L, F, S, P) 1 v = (A, B, C, IntKind.wrap .u8 (shrI .u16 v 8), IntKind.wrap .u8 v, H, L, F, S, P) := by kernel_rfl
theorem sp2 (A B C D E H L : Int) (F : FlgT) (S P v : Int) : rSetPair (A, B, C, D, E, H, L, F, S, P) 2 v = (A, B, C, D, E, IntKind.wrap .u8 (shrI .u16 v 8), IntKind.wrap .u8 v, F, S, P) := by kernel_rfl
theorem gp1 (A B C D E H L : Int) (F : FlgT) (S P : Int) : rPair (A, B, C, D, E, H, L, F, S, P) 1 = rJoin D E := by kernel_rfl
theorem gp2 (A B C D E H L : Int) (F : FlgT) (S P : Int) : rPair (A, B, C, D, E, H, L, F, S, P) 2 = rJoin H L := by kernel_rfl
theorem sr7 (A B C D E H L : Int) (F : FlgT) (S P v : Int) : rSet (A, B, C, D, E, H, L, F, S, P) 7 v = (v, B, C, D, E, H, L, F, S, P) := by kernel_rfl
theorem or_one (chip a : Int) (f : FlgT) : (rDo chip 6 a a f).1 = orI .u8 a a ∧ (rDo chip 6 a a f).2.2.1 = (orI .u8 a a == 0) := ⟨by kernel_rfl, by kernel_rfl⟩
theorem or_self8 (a : Nat) (h : a < 256) : orI .u8 (a : Int) (a : Int) = a := by
  have := byte_all (fun x => orI .u8 x x == x) (by kernel_rfl) (a : Int) (u8n a h)
  simpa using this
theorem dcr_one (chip a : Int) (f : FlgT) : (rDcr chip a f).1 = (rDiff a 1 false).1 := by kernel_rfl
theorem dif8 (a : Nat) (h : a + 1 < 256) : (rDiff ((a + 1 : Nat) : Int) 1 false).1 = a := by
  have := byte_all (fun x => x == 0 || (rDiff x 1 false).1 == x - 1) (by kernel_rfl) ((a + 1 : Nat) : Int) (u8n _ h)
  simp only [Bool.or_eq_true, beq_iff_eq] at this
  rcases this with h | h
  · omega
  · rw [h]; omega
theorem dad_one (chip a b : Int) (f : FlgT) : (rDad chip a b f).1 = IntKind.wrap .u16 (a + b) := by kernel_rfl
section
variable (chip : Int) (a b : Nat) (ha : a < 256) (hb : b < 256)
theorem m_lxi (hb : b < 256) (A D E : Int) (v : Nat) (F : FlgT) : (stepX (cA chip A D E v F ((0 : Nat) : Int) false) 0 noL (mulM a b)).1 = cA chip A 0 b v F ((3 : Nat) : Int) false ∧ (stepX (cA chip A D E v F ((0 : Nat) : Int) false) 0 noL (mulM a b)).2.1 = mulM a b := by
  rw [step_of (cA chip A D E v F ((0 : Nat) : Int) false) (mulM a b) noL (o := 17) (mul_rd a b 0 (by omega)) (d11 _), go2 (d11 _) (fun g => rfl)]
  have e1 : opM (cA chip A D E v F ((0 : Nat) : Int) false) (mulM a b) 1 = b := mul_op a b _ 0 1 rfl (by omega)
  have e2 : opM (cA chip A D E v F ((0 : Nat) : Int) false) (mulM a b) 2 = 0 := mul_op a b _ 0 2 rfl (by omega)
  rw [e1, e2]
  refine ⟨?_, rfl⟩
  show ((chip, rSetPair (A, 0, 0, D, E, ((v / 256 : Nat) : Int), ((v % 256 : Nat) : Int), F, 0, behindX (cA chip A D E v F ((0 : Nat) : Int) false) false (4, 3, 0, 0, 1, 0, 0, 0)) 1 (rJoin 0 (b : Int)), false, false, false, 0, false, false, false, false, false, false, false) : CpuT) = _
  rw [behind chip A D E v F 0 _ 3 rfl (by omega), sp1, join_hi i80 (u8n b hb), join_lo i80 (u8n b hb)]
  rfl
theorem m_mvi (A D E : Int) (v : Nat) (F : FlgT) : (stepX (cA chip A D E v F ((3 : Nat) : Int) false) 0 noL (mulM a b)).1 = cA chip a D E v F ((5 : Nat) : Int) false ∧ (stepX (cA chip A D E v F ((3 : Nat) : Int) false) 0 noL (mulM a b)).2.1 = mulM a b := by
  rw [step_of (cA chip A D E v F ((3 : Nat) : Int) false) (mulM a b) noL (o := 62) (mul_rd a b 3 (by omega)) (d3e _), go1 (d3e _) (fun g => rfl)]
  have e1 : opM (cA chip A D E v F ((3 : Nat) : Int) false) (mulM a b) 1 = a := mul_op a b _ 3 1 rfl (by omega)
  rw [e1]
  refine ⟨?_, rfl⟩
  show ((chip, rSet (A, 0, 0, D, E, ((v / 256 : Nat) : Int), ((v % 256 : Nat) : Int), F, 0, behindX (cA chip A D E v F ((3 : Nat) : Int) false) false (3, 2, 7, 0, 0, 0, 0, 0)) 7 (a : Int), false, false, false, 0, false, false, false, false, false, false, false) : CpuT) = _
  rw [behind chip A D E v F 3 _ 2 rfl (by omega), sr7]
  rfl
theorem m_ora (A : Nat) (hA : A < 256) (D E : Int) (v : Nat) (F : FlgT) : ∃ G : FlgT, G.2.1 = ((A : Int) == 0) ∧ (stepX (cA chip A D E v F ((5 : Nat) : Int) false) 0 noL (mulM a b)).1 = cA chip A D E v G ((6 : Nat) : Int) false ∧ (stepX (cA chip A D E v F ((5 : Nat) : Int) false) 0 noL (mulM a b)).2.1 = mulM a b := by
  rw [step_of (cA chip A D E v F ((5 : Nat) : Int) false) (mulM a b) noL (o := 183) (mul_rd a b 5 (by omega)) (db7 _), go0 (db7 _) (fun g => rfl)]
  have ho := or_one chip (A : Int) F
  rw [or_self8 A hA] at ho
  refine ⟨(rDo chip 6 A A F).2, ho.2, ?_, rfl⟩
  show ((chip, ((rDo chip 6 A A F).1, 0, 0, D, E, ((v / 256 : Nat) : Int), ((v % 256 : Nat) : Int), (rDo chip 6 A A F).2, 0, behindX (cA chip A D E v F ((5 : Nat) : Int) false) false (12, 1, 0, 7, 0, 6, 0, 0)), false, false, false, 0, false, false, false, false, false, false, false) : CpuT) = _
  rw [behind chip A D E v F 5 _ 1 rfl (by omega), ho.1]
  rfl
theorem jmp_body (c : CpuT) (g : List Int) (n : Int) : bodyX c false g (24, 3, 0, 0, 0, 0, n, 0) = bif c.1 == 2 && !rHolds n c.2.1.2.2.2.2.2.2.2.1 then [opC c false 1] else [opC c false 1, opC c false 2] := rfl
theorem m_jz (A D E : Int) (v : Nat) (F : FlgT) : (stepX (cA chip A D E v F ((6 : Nat) : Int) false) 0 noL (mulM a b)).1 = cA chip A D E v F (bif F.2.1 then ((14 : Nat) : Int) else ((9 : Nat) : Int)) false ∧ (stepX (cA chip A D E v F ((6 : Nat) : Int) false) 0 noL (mulM a b)).2.1 = mulM a b := by
  have hz : rHolds 1 F = F.2.1 := by kernel_rfl
  have e1 : opM (cA chip A D E v F ((6 : Nat) : Int) false) (mulM a b) 1 = 14 := mul_op a b _ 6 1 rfl (by omega)
  have e2 : opM (cA chip A D E v F ((6 : Nat) : Int) false) (mulM a b) 2 = 0 := mul_op a b _ 6 2 rfl (by omega)
  have key : ∀ g : List Int, (F.2.1 = true → joinX g 1 = 14) → finI (cA chip A D E v F ((6 : Nat) : Int) false) false g noL (24, 3, 0, 0, 0, 0, 1, 0) = cA chip A D E v F (bif F.2.1 then ((14 : Nat) : Int) else ((9 : Nat) : Int)) false := by
    intro g hg
    show ((chip, (bif rHolds 1 F then (A, 0, 0, D, E, ((v / 256 : Nat) : Int), ((v % 256 : Nat) : Int), F, 0, joinX g 1) else (A, 0, 0, D, E, ((v / 256 : Nat) : Int), ((v % 256 : Nat) : Int), F, 0, behindX (cA chip A D E v F ((6 : Nat) : Int) false) false (24, 3, 0, 0, 0, 0, 1, 0))), false, false, false, 0, false, false, false, false, false, false, false) : CpuT) = _
    rw [behind chip A D E v F 6 _ 3 rfl (by omega), hz]
    cases h : F.2.1
    · rfl
    · rw [hg h]; rfl
  rw [step_of (cA chip A D E v F ((6 : Nat) : Int) false) (mulM a b) noL (o := 202) (mul_rd a b 6 (by omega)) (dca _)]
  cases hc : (chip == 2 && !rHolds 1 F)
  · rw [go2 (dca _) (fun g => by rw [jmp_body]; show (bif chip == 2 && !rHolds 1 F then _ else _) = _; rw [hc]; rfl), e1, e2]
    exact ⟨key _ fun _ => by kernel_rfl, rfl⟩
  · rw [go1 (dca _) (fun g => by rw [jmp_body]; show (bif chip == 2 && !rHolds 1 F then _ else _) = _; rw [hc]; rfl), e1]
    rw [hz, Bool.and_eq_true, Bool.not_eq_true'] at hc
    exact ⟨key _ fun h => by rw [hc.2] at h; simp at h, rfl⟩
theorem m_dad (hb : b < 256) (A : Int) (v : Nat) (hv : v + b < 65536) (F : FlgT) : ∃ G : FlgT, (stepX (cA chip A 0 b v F ((9 : Nat) : Int) false) 0 noL (mulM a b)).1 = cA chip A 0 b (v + b) G ((10 : Nat) : Int) false ∧ (stepX (cA chip A 0 b v F ((9 : Nat) : Int) false) 0 noL (mulM a b)).2.1 = mulM a b := by
  rw [step_of (cA chip A 0 b v F ((9 : Nat) : Int) false) (mulM a b) noL (o := 25) (mul_rd a b 9 (by omega)) (d19 _), goi2 (d19 _) (fun g => rfl)]
  have hj : (rDad chip (rJoin ((v / 256 : Nat) : Int) ((v % 256 : Nat) : Int)) (rJoin 0 (b : Int)) F).1 = ((v + b : Nat) : Int) := by
    rw [dad_one, join_of v (by omega), show rJoin 0 (b : Int) = b by rw [join_val i80 (u8n b hb)]; omega, show (v : Int) + (b : Int) = ((v + b : Nat) : Int) by omega, w16 hv]
  refine ⟨(rDad chip (rJoin ((v / 256 : Nat) : Int) ((v % 256 : Nat) : Int)) (rJoin 0 (b : Int)) F).2, ?_, rfl⟩
  show ((chip, rSetPair (A, 0, 0, 0, (b : Int), ((v / 256 : Nat) : Int), ((v % 256 : Nat) : Int), (rDad chip (rPair (A, 0, 0, 0, (b : Int), ((v / 256 : Nat) : Int), ((v % 256 : Nat) : Int), F, 0, ((9 : Nat) : Int)) 2) (rPair (A, 0, 0, 0, (b : Int), ((v / 256 : Nat) : Int), ((v % 256 : Nat) : Int), F, 0, ((9 : Nat) : Int)) 1) F).2, 0, behindX (cA chip A 0 b v F ((9 : Nat) : Int) false) false (18, 1, 0, 0, 1, 0, 0, 0)) 2 (rDad chip (rPair (A, 0, 0, 0, (b : Int), ((v / 256 : Nat) : Int), ((v % 256 : Nat) : Int), F, 0, ((9 : Nat) : Int)) 2) (rPair (A, 0, 0, 0, (b : Int), ((v / 256 : Nat) : Int), ((v % 256 : Nat) : Int), F, 0, ((9 : Nat) : Int)) 1) F).1, false, false, false, 0, false, false, false, false, false, false, false) : CpuT) = _
  rw [behind chip A 0 b v F 9 _ 1 rfl (by omega), gp1, gp2, hj, sp2, hi_of _ hv, lo_of]
  rfl
theorem m_dcr (A : Nat) (hA : A + 1 < 256) (D E : Int) (v : Nat) (F : FlgT) : ∃ G : FlgT, (stepX (cA chip ((A + 1 : Nat) : Int) D E v F ((10 : Nat) : Int) false) 0 noL (mulM a b)).1 = cA chip A D E v G ((11 : Nat) : Int) false ∧ (stepX (cA chip ((A + 1 : Nat) : Int) D E v F ((10 : Nat) : Int) false) 0 noL (mulM a b)).2.1 = mulM a b := by
  rw [step_of (cA chip ((A + 1 : Nat) : Int) D E v F ((10 : Nat) : Int) false) (mulM a b) noL (o := 61) (mul_rd a b 10 (by omega)) (d3d _), go0 (d3d _) (fun g => rfl)]
  have ho := dcr_one chip ((A + 1 : Nat) : Int) F
  rw [dif8 A hA] at ho
  refine ⟨(rDcr chip ((A + 1 : Nat) : Int) F).2, ?_, rfl⟩
  show ((chip, rSet (((A + 1 : Nat) : Int), 0, 0, D, E, ((v / 256 : Nat) : Int), ((v % 256 : Nat) : Int), (rDcr chip ((A + 1 : Nat) : Int) F).2, 0, behindX (cA chip ((A + 1 : Nat) : Int) D E v F ((10 : Nat) : Int) false) false (15, 1, 7, 0, 0, 0, 0, 0)) 7 (rDcr chip ((A + 1 : Nat) : Int) F).1, false, false, false, 0, false, false, false, false, false, false, false) : CpuT) = _
  rw [behind chip _ D E v F 10 _ 1 rfl (by omega), ho, sr7]
  rfl
theorem m_jmp (A D E : Int) (v : Nat) (F : FlgT) : (stepX (cA chip A D E v F ((11 : Nat) : Int) false) 0 noL (mulM a b)).1 = cA chip A D E v F ((5 : Nat) : Int) false ∧ (stepX (cA chip A D E v F ((11 : Nat) : Int) false) 0 noL (mulM a b)).2.1 = mulM a b := by
  have hz : rHolds 11 F = true := by kernel_rfl
  have e1 : opM (cA chip A D E v F ((11 : Nat) : Int) false) (mulM a b) 1 = 5 := mul_op a b _ 11 1 rfl (by omega)
  have e2 : opM (cA chip A D E v F ((11 : Nat) : Int) false) (mulM a b) 2 = 0 := mul_op a b _ 11 2 rfl (by omega)
  rw [step_of (cA chip A D E v F ((11 : Nat) : Int) false) (mulM a b) noL (o := 195) (mul_rd a b 11 (by omega)) (dc3 _),
    go2 (dc3 _) (fun g => by rw [jmp_body]; show (bif chip == 2 && !rHolds 11 F then _ else _) = _; rw [hz, Bool.not_true, Bool.and_false]; rfl), e1, e2]
  refine ⟨?_, rfl⟩
  show ((chip, (bif rHolds 11 F then (A, 0, 0, D, E, ((v / 256 : Nat) : Int), ((v % 256 : Nat) : Int), F, 0, rJoin 0 5) else (A, 0, 0, D, E, ((v / 256 : Nat) : Int), ((v % 256 : Nat) : Int), F, 0, behindX (cA chip A D E v F ((11 : Nat) : Int) false) false (24, 3, 0, 0, 0, 0, 11, 0))), false, false, false, 0, false, false, false, false, false, false, false) : CpuT) = _
  rw [hz, cond_true, show rJoin 0 5 = 5 by kernel_rfl]
  rfl
theorem hlt_body (c : CpuT) (g : List Int) : bodyX c false g (37, 1, 0, 0, 0, 0, 0, 0) = bif c.1 == 2 then [] else [(10, pcOf c, 0, 3)] := rfl
theorem m_hlt (A D E : Int) (v : Nat) (F : FlgT) : (stepX (cA chip A D E v F ((14 : Nat) : Int) false) 0 noL (mulM a b)).1 = cA chip A D E v F ((15 : Nat) : Int) true ∧ (stepX (cA chip A D E v F ((14 : Nat) : Int) false) 0 noL (mulM a b)).2.1 = mulM a b := by
  have key : ∀ g : List Int, finI (cA chip A D E v F ((14 : Nat) : Int) false) false g noL (37, 1, 0, 0, 0, 0, 0, 0) = cA chip A D E v F ((15 : Nat) : Int) true := by
    intro g
    show ((chip, (A, 0, 0, D, E, ((v / 256 : Nat) : Int), ((v % 256 : Nat) : Int), F, 0, behindX (cA chip A D E v F ((14 : Nat) : Int) false) false (37, 1, 0, 0, 0, 0, 0, 0)), false, false, true, 0, false, false, false, false, false, false, false) : CpuT) = _
    rw [behind chip A D E v F 14 _ 1 rfl (by omega)]
    rfl
  rw [step_of (cA chip A D E v F ((14 : Nat) : Int) false) (mulM a b) noL (o := 118) (mul_rd a b 14 (by omega)) (d76 _)]
  cases hc : (chip == 2)
  · rw [goh (d76 _) (fun g => by rw [hlt_body]; show (bif chip == 2 then _ else _) = _; rw [hc]; rfl)]
    exact ⟨key _, rfl⟩
  · rw [go0 (d76 _) (fun g => by rw [hlt_body]; show (bif chip == 2 then _ else _) = _; rw [hc]; rfl)]
    exact ⟨key _, rfl⟩
theorem run_step {n : Nat} {c c' : CpuT} {m m' : MacT} {u : Int} (hh : c.2.2.2.2.1 = false) (h : (stepX c 0 noL m).1 = c' ∧ (stepX c 0 noL m).2.1 = m') : runX (n + 1) c m u = runX n c' m' (u + 1) := by
  conv => lhs; unfold runX
  rw [hh, h.1, h.2]; rfl
theorem m_loop (hb : b < 256) : ∀ (A v : Nat) (F : FlgT) (u : Int), A < 256 → v + A * b < 65536 → ∃ (G : FlgT) (u' : Int), runX (5 * A + 3) (cA chip A 0 b v F ((5 : Nat) : Int) false) (mulM a b) u = (cA chip 0 0 b (v + A * b) G ((15 : Nat) : Int) true, mulM a b, u')
  | 0, v, F, u, hA, hv => by
    obtain ⟨G, hG, h1⟩ := m_ora chip a b 0 hA 0 b v F
    have h2 := m_jz chip a b ((0 : Nat) : Int) 0 b v G
    rw [hG, show (bif (((0 : Nat) : Int) == 0) then ((14 : Nat) : Int) else ((9 : Nat) : Int)) = ((14 : Nat) : Int) from rfl] at h2
    refine ⟨G, u + 1 + 1 + 1, ?_⟩
    rw [show 5 * 0 + 3 = 2 + 1 by omega, run_step rfl h1, run_step (n := 1) rfl h2, run_step (n := 0) rfl (m_hlt chip a b _ 0 b v G), Nat.zero_mul, Nat.add_zero]
    rfl
  | A + 1, v, F, u, hA, hv => by
    have hm : (A + 1) * b = A * b + b := Nat.succ_mul A b
    obtain ⟨G, hG, h1⟩ := m_ora chip a b (A + 1) hA 0 b v F
    have h2 := m_jz chip a b ((A + 1 : Nat) : Int) 0 b v G
    have h0 : (((A + 1 : Nat) : Int) == 0) = false := by simp; omega
    rw [hG, h0, cond_false] at h2
    obtain ⟨G1, h3⟩ := m_dad chip a b hb ((A + 1 : Nat) : Int) v (by omega) G
    obtain ⟨G2, h4⟩ := m_dcr chip a b A hA 0 b (v + b) G1
    obtain ⟨G3, u', h5⟩ := m_loop hb A (v + b) G2 (u + 1 + 1 + 1 + 1 + 1) (by omega) (by omega)
    refine ⟨G3, u', ?_⟩
    rw [show 5 * (A + 1) + 3 = (5 * A + 3) + 1 + 1 + 1 + 1 + 1 by omega, run_step rfl h1, run_step rfl h2, run_step rfl h3, run_step rfl h4, run_step rfl (m_jmp chip a b _ 0 b (v + b) G2), h5, show v + b + A * b = v + (A + 1) * b by omega]
theorem mul_run (ha : a < 256) (hb : b < 256) : ∃ (G : FlgT) (u : Int), runX 2000 (cpuK chip 0) (mulM a b) 0 = (cA chip 0 0 b (a * b) G ((15 : Nat) : Int) true, mulM a b, u) := by
  have hab : a * b ≤ 255 * 255 := Nat.mul_le_mul (by omega) (by omega)
  obtain ⟨G, u, h⟩ := m_loop chip a b hb a 0 (false, false, false, false, false, false, false) (0 + 1 + 1) ha (by omega)
  refine ⟨G, u, ?_⟩
  have h0 : cpuK chip 0 = cA chip 0 0 0 0 (false, false, false, false, false, false, false) ((0 : Nat) : Int) false := rfl
  rw [h0, show 2000 = ((5 * a + 3) + (1995 - 5 * a)) + 1 + 1 by omega, run_step rfl (m_lxi chip a b hb 0 0 0 0 _), run_step rfl (m_mvi chip a b 0 0 b 0 _), run_add, h, run_halt _ _ _ _ rfl, Nat.zero_add]
end
end
end Go.Proofs.YtpkijkmagnhciaaGreat
open Go Go.S3 Go.Proofs Go.Proofs.Cells
set_option linter.unusedVariables false
set_option linter.unusedSimpArgs false
set_option maxRecDepth 100000
namespace Go.Proofs.YtpkijkmagnhciaaGreat
noncomputable section
theorem lval {t : RT (Option Bool)} (h : t.val = some true) : okB t.val = true ∧ getO false t.val = true := by rw [h]; exact ⟨rfl, rfl⟩
theorem kRam_eq : kRam = ramX := by kernel_rfl
theorem knownI : kKnC = true ∧ kKn = true := lval (t := kKnT) (by kernel_rfl)
theorem smG_ram : smG ramX = true := by kernel_rfl
theorem place_rng (x n : Int) (h0 : 0 < n) (h1 : n ≤ 4611686018427387904) : mPlaceC x n = true ∧ 0 ≤ mPlace x n ∧ mPlace x n < n := by
  have h := mPlace_eq x n h0 h1
  exact ⟨h.1, by rw [h.2]; exact Int.emod_nonneg _ (by omega), by rw [h.2]; exact Int.emod_lt_of_pos _ h0⟩
theorem limits_law (n : List Int) (k : Int) : lLimitsC n k = true ∧ lLimits n k = true := by
  have hc := (nChip_in (from_ok n) (by decide)).1
  have hp := place_rng k 3 (by decide) (by decide)
  generalize hch : (nChip (n, 0)).1 = ch
  have key : ∀ K : Int, (K = 9999 ∨ K = 10000 ∨ K = 10001) → runR (cpuK ch 0) ramX [] [] K = (cpuK ch (limK K), [], [], limK K) := by
    intro K hK
    have hl : limK K = ((limK K).toNat : Int) ∧ (limK K).toNat ≤ 10000 := by unfold limK; rcases hK with h | h | h <;> subst h <;> decide
    have h := nop_run ch (limK K).toNat 0 0 (by omega)
    have hs : startX ramX [] [] = (ramX, [], [], []) := rfl
    unfold runR
    rw [hs]
    simp only
    rw [show cpuK ch 0 = cpuK ch ((0 : Nat) : Int) from rfl, h, Nat.zero_add, Int.zero_add, ← hl.1]
  have hv : (lLimitsT n k).val = some true := by
    have hg : (smG ramX && roomI []) = true := by kernel_rfl
    have hw : IntKind.wrap .i64 (9999 + mPlace k 3) = 9999 ∨ IntKind.wrap .i64 (9999 + mPlace k 3) = 10000 ∨ IntKind.wrap .i64 (9999 + mPlace k 3) = 10001 := by
      rw [wrap_i64 _ (by omega) (by omega)]; omega
    have hk := key _ hw
    unfold cpuK at hk
    simp only [lLimitsT, RT.val, kRam_eq, hch, hc, hp.1, hg, hk, knownI.1, knownI.2, cond_true, Bool.or_true]
    generalize IntKind.wrap .i64 (9999 + mPlace k 3) = K at hw
    rcases hw with h | h | h <;> subst h <;> simp [limK] <;> decide
  exact ⟨by simp only [lLimitsC, hv]; rfl, by simp only [lLimits, hv, getO]⟩
theorem adds_law (n : List Int) (a b : Int) (ha : inR .u8 a) (hb : inR .u8 b) : lAddsC n a b = true ∧ lAdds n a b = true := by
  have hc := (nChip_in (from_ok n) (by decide)).1
  generalize hch : (nChip (n, 0)).1 = ch
  obtain ⟨a, rfl, ha2⟩ := bnat ha; clear ha; have ha := ha2
  obtain ⟨b, rfl, hb2⟩ := bnat hb; clear hb; have hb := hb2
  obtain ⟨G, u, hr⟩ := mul_run ch a b ha hb
  have hab : a * b ≤ 255 * 255 := Nat.mul_le_mul (by omega) (by omega)
  have key : runR (cpuK ch 0) ramX (loadX 0 (mulP a b)) [] 2000 = (cA ch 0 0 b (a * b) G ((15 : Nat) : Int) true, loadX 0 (mulP a b), [], u) := by
    have hs : startX ramX (loadX 0 (mulP a b)) [] = mulM a b := by
      unfold startX mulM
      rw [normX_same (show Vld (loadX 0 (mulP a b)) from normX_vld _)]
    unfold runR
    rw [hs]
    simp only
    rw [show (limK 2000).toNat = 2000 from rfl, hr]
    rfl
  have hv : (lAddsT n a b).val = some true := by
    have h2 : (smG ramX && roomI (loadX 0 (mulP a b))) = true := by
      rw [smG_ram, Bool.true_and, roomI_iff]
      have h3 : (loadX 0 (mulP a b)).length ≤ 15 := by
        have := normX_len (loadL 0 (mulP a b) (mulP a b).length)
        rw [loadL_len] at this
        exact this
      have := mst; omega
    have h1 : smB (mulP a b) = true := by
      show sm (mulP a b) = true
      rw [sm_iff, mul_len]; have := mst; omega
    unfold cpuK at key
    unfold mulP at key h1 h2
    have e1 : IntKind.wrap .u8 (shrI .i64 (IntKind.wrap .i64 (IntKind.wrap .i64 (a : Int) * IntKind.wrap .i64 (b : Int))) 8) = ((a * b / 256 : Nat) : Int) := by
      rw [wrap_i64 (a : Int) (by omega) (by omega), wrap_i64 (b : Int) (by omega) (by omega), show (a : Int) * (b : Int) = ((a * b : Nat) : Int) by simp, wrap_i64 _ (by omega) (by omega)]
      have : shrI .i64 ((a * b : Nat) : Int) 8 = ((a * b / 256 : Nat) : Int) := by
        simp only [shrI]
        have : ((2 : Int) ^ min (8 : Int).toNat IntKind.i64.bits) = 256 := by decide
        rw [this, Int.fdiv_eq_ediv_of_nonneg _ (by decide)]; omega
      rw [this]
      simp [IntKind.wrap, IntKind.signed, IntKind.bits]; omega
    have e2 : IntKind.wrap .u8 ((a : Int) * (b : Int)) = ((a * b % 256 : Nat) : Int) := by
      rw [show (a : Int) * (b : Int) = ((a * b : Nat) : Int) by simp]; exact lo_of (a * b)
    simp only [lAddsT, RT.val, kRam_eq, hch, hc, h1, h2, key, cA, e1, e2, knownI.1, knownI.2, cond_true, Bool.or_true, beq_self_eq_true, Bool.and_self]
  exact ⟨by simp only [lAddsC, hv]; rfl, by simp only [lAdds, hv, getO]⟩
end
end Go.Proofs.YtpkijkmagnhciaaGreat
