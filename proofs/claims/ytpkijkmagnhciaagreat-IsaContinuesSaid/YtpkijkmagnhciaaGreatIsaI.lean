/-
  Laws of the interpreter over a made scene. Conditions: none.
-/
import Derived.Test.YtpkijkmagnhciaaGreatS3D
import Derived.Test.YtpkijkmagnhciaaGreatProg
import Derived.Test.YtpkijkmagnhciaaGreatMake
import Derived.Test.YtpkijkmagnhciaaGreatMakeOk5
import Derived.Test.YtpkijkmagnhciaaGreatS3Box1
import Derived.Test.YtpkijkmagnhciaaGreatMemE
import Derived.Test.YtpkijkmagnhciaaGreatS3New
import Derived.Test.YtpkijkmagnhciaaGreatS3Stg
set_option linter.unusedSimpArgs false
open Go Go.S3 Go.Proofs
set_option linter.unusedVariables false
set_option maxRecDepth 100000
namespace Go.Proofs.YtpkijkmagnhciaaGreat
noncomputable section
def qDoE : Entry := .tree (evFunc (envX Tryz.prog [(170, pReadM1E), (171, pWriteM1E)] [] 9223389629049209151 8) Tryz.f117)
theorem qDo_ok : EntryOk Tryz.prog 117 qDoE := inl_ok (P := Tryz.prog) (n := 9223389629049209151) (k := 8) (l := [(170, pReadM1E), (171, pWriteM1E)]) (ol := []) ⟨pReadM1_ok, pWriteM1_ok, trivial⟩ Tryz.func117 rfl (by kernel_rfl) Tryz.call117 trivial
def isisa_normalE : Entry := .tree (evFunc (envX Tryz.prog [(114, mNorm1E)] [] 7 8) Tryz.f66)
theorem isisa_normal_ok : EntryOk Tryz.prog 66 isisa_normalE := inl_ok (P := Tryz.prog) (n := 7) (k := 8) (l := [(114, mNorm1E)]) (ol := []) ⟨mNorm1_ok, trivial⟩ Tryz.func66 rfl (by kernel_rfl) Tryz.call66 trivial
def qStepBL0c : LS := { n := 37, slots := [(0, .fix (A.loc 2 0)), (2, .code (Sh.one (R.int IntKind.i64))), (5, .fix (A.loc 3 0)), (7, .fix (A.loc 4 0)), (8, .fix (A.loc 5 0)), (9, .code (Sh.one (R.sl (R.int IntKind.u8)))), (10, .tip 1)], boxes := [[.many rcCPU], [.many rcCPU], [.code rcRG, .code rcCE, .code (R.sl (R.int IntKind.u8)), .tip 0], [.many rcCPU], [.many (R.pair R.bool (R.pair R.bool rcF7))], [.many rcCPU]], stgs := [⟨R.pair (R.int IntKind.u8) (R.int IntKind.u8), 134, true⟩, ⟨(R.int IntKind.u8), 5, true⟩] }
def qStepBL0T (a : Int × List Int × TC × TC × List (Int × Int × Bool × Int) × List (Int × Int) × List Int × TC × (Bool × Bool × Bool × Bool × Bool × Bool × Bool × Bool × Bool) × TC × List (Int × Int) × List Int × PUnit) : RT (Option (Go1 (Int × List Int × TC × TC × List (Int × Int × Bool × Int) × List (Int × Int) × List Int × TC × (Bool × Bool × Bool × Bool × Bool × Bool × Bool × Bool × Bool) × TC × List (Int × Int) × List Int × PUnit))) :=
  let x1 : TY × Bool := nextX a.2.2.2.2.2.2.2.1 a.1 a.2.2.2.2.2.2.2.2.2.2.2.1
  let x2 : Bool := !x1.2
  let x3 : Int × Int × Int × Int := x1.1
  let x4 : Int := x3.1
  let x5 : Bool := x4 == 1
  let x6 : Bool := x4 == 2
  let x7 : Bool := bif x5 then x5 else bif x6 then x6 else x4 == 4
  let x8 : Bool := !x7
  let x9 : Bool := smG a.2.2.2.2.1 && smC a.2.2.2.2.2.1
  let x10 : Bool := x8 || x9
  let x11 : Bool := !x10
  let x12 : Bool := x4 == 3
  let x13 : Bool := bif x12 then x12 else x4 == 5
  let x14 : Bool := !x13
  let x15 : Bool := x7 || (x14 || x9)
  let x16 : Bool := !x15
  let x17 : Bool := x4 == 7
  let x18 : Bool := !x17
  let x19 : Int × Int × Int := x3.2
  let x20 : Int := x19.1
  let x21 : Int := x19.2.1
  let x22 : List (Int × Int) := a.2.2.2.2.2.2.2.2.2.2.1 ++ [(IntKind.u8.wrap x20, x21)]
  let x23 : Bool := x7 || (x13 || (x18 || Nat.ble (List.length x22) most))
  let x24 : Bool := !x23
  let x25 : Bool := x4 == 6
  let x26 : Bool := x4 == 8
  let x27 : Bool := bif x25 then x25 else bif x26 then x26 else x4 == 9
  let x28 : Bool := !x27
  let x29 : Bool := x11 || (x16 || (x24 || (x7 || (x13 || (x17 || (x28 || (iN (List.length a.2.2.2.2.2.2.1) == 0 || (!inRng 0 (List.length a.2.2.2.2.2.2.1) || decide (0 ≤ 1) && decide (1 ≤ iN (List.length a.2.2.2.2.2.2.1)) && (decide (iN (List.length a.2.2.2.2.2.2.1) = 0) || decide (iN (List.length a.2.2.2.2.2.2.1) ≤ iN (List.length a.2.2.2.2.2.2.1)))))))))))
  let x30 : Bool := !x29
  let x31 : Bool := x11 || (x16 || (x24 || (x7 || (x13 || (x17 || (x28 || (iN (List.length a.2.2.2.2.2.2.1) == 0 || inRng 0 (List.length a.2.2.2.2.2.2.1))))))))
  let x32 : Bool := !x31
  let x33 : Bool := x11 || (x16 || x23)
  let x34 : Bool := !x33
  let x35 : Bool := x11 || x15
  let x36 : Bool := !x35
  let x37 : List Int := a.2.2.2.2.2.2.2.2.2.2.2.1 ++ [readMX a.2.2.2.2.1 a.2.2.2.2.2.1 x20]
  let x38 : Bool := x30 || (x32 || (x34 || (x36 || (x11 || (x8 || Nat.ble (List.length x37) most)))))
  let x39 : Bool := !x38
  let x40 : List Int := a.2.2.2.2.2.2.2.2.2.2.2.1 ++ [x21]
  let x41 : Bool := Nat.ble (List.length x40) most
  let x42 : Bool := x30 || (x32 || (x34 || (x36 || (x11 || (x7 || (x14 || x41))))))
  let x43 : Bool := !x42
  let x44 : Bool := x30 || (x32 || (x34 || (x36 || (x11 || (x7 || (x13 || (x18 || x41)))))))
  let x45 : Bool := !x44
  let x46 : List Int := a.2.2.2.2.2.2.2.2.2.2.2.1 ++ [0]
  let x47 : Bool := Nat.ble (List.length x46) most
  let x48 : Bool := x30 || (x32 || (x34 || (x36 || (x11 || (x7 || (x13 || (x17 || (x28 || (!iN (List.length a.2.2.2.2.2.2.1) == 0 || x47)))))))))
  let x49 : Bool := !x48
  let x50 : List Int := a.2.2.2.2.2.2.2.2.2.2.2.1 ++ [R.get (R.int IntKind.u8) a.2.2.2.2.2.2.1 0]
  let x51 : Bool := x30 || (x32 || (x34 || (x36 || (x11 || (x7 || (x13 || (x17 || (x28 || (iN (List.length a.2.2.2.2.2.2.1) == 0 || Nat.ble (List.length x50) most)))))))))
  let x52 : Bool := !x51
  let x53 : Bool := x30 || (x32 || (x34 || (x36 || (x11 || (x7 || (x13 || (x17 || (x27 || x47))))))))
  let x54 : Bool := !x53
  let x55 : Bool := x30 || (x32 || (x34 || (x36 || x10)))
  let x56 : Bool := !x55
  let x57 : Bool := x30 || (x32 || (x34 || x35))
  let x58 : Bool := !x57
  let x59 : Bool := x30 || (x32 || x33)
  let x60 : Bool := !x59
  let x61 : Bool := x30 || x31
  .br (x2 || (x39 || (x43 || (x45 || (x49 || (x52 || (x54 || (x56 || (x58 || (x60 || (!x61 || x29)))))))))))
  (.br (x2 || (x39 || (x43 || (x45 || (x49 || (x52 || (x54 || (x56 || (x58 || (x60 || x61))))))))))
   (.br (x2 || (x39 || (x43 || (x45 || (x49 || (x52 || (x54 || (x56 || (x58 || x59)))))))))
    (.br (x2 || (x39 || (x43 || (x45 || (x49 || (x52 || (x54 || (x56 || x57))))))))
     (.br (x2 || (x39 || (x43 || (x45 || (x49 || (x52 || (x54 || x55)))))))
      (.br (x2 || (x39 || (x43 || (x45 || (x49 || (x52 || x53))))))
       (.br (x2 || (x39 || (x43 || (x45 || (x49 || x51)))))
        (.br (x2 || (x39 || (x43 || (x45 || x48))))
         (.br (x2 || (x39 || (x43 || x44)))
          (.br (x2 || (x39 || x42))
           (.br (x2 || x38)
            (.br (x2)
             (.leaf (some (Go1.ret (a.1, a.2.2.2.2.2.2.2.2.2.2.2.1, a.2.2.1, a.2.2.2.1, a.2.2.2.2.1, a.2.2.2.2.2.1, a.2.2.2.2.2.2.1, a.2.2.2.2.2.2.2.1, a.2.2.2.2.2.2.2.2.1, finX a.2.2.2.2.2.2.2.1 a.1 a.2.2.2.2.2.2.2.2.2.2.2.1 a.2.2.2.2.2.2.2.2.1, a.2.2.2.2.2.2.2.2.2.2.1, a.2.2.2.2.2.2.2.2.2.2.2.1, PUnit.unit))))
             (.leaf (some (Go1.cont (a.1, a.2.1, a.2.2.1, a.2.2.2.1, a.2.2.2.2.1, bif x7 then a.2.2.2.2.2.1 else bif x13 then writeMX a.2.2.2.2.1 a.2.2.2.2.2.1 x20 x21 else a.2.2.2.2.2.1, bif x7 then a.2.2.2.2.2.2.1 else bif x13 then a.2.2.2.2.2.2.1 else bif x17 then a.2.2.2.2.2.2.1 else bif x27 then bif iN (List.length a.2.2.2.2.2.2.1) == 0 then a.2.2.2.2.2.2.1 else subL a.2.2.2.2.2.2.1 1 (iN (List.length a.2.2.2.2.2.2.1)) else a.2.2.2.2.2.2.1, a.2.2.2.2.2.2.2.1, a.2.2.2.2.2.2.2.2.1, a.2.2.2.2.2.2.2.2.2.1, bif x7 then a.2.2.2.2.2.2.2.2.2.2.1 else bif x13 then a.2.2.2.2.2.2.2.2.2.2.1 else bif x17 then x22 else a.2.2.2.2.2.2.2.2.2.2.1, bif x7 then x37 else bif x13 then x40 else bif x17 then x40 else bif x27 then bif iN (List.length a.2.2.2.2.2.2.1) == 0 then x46 else x50 else x46, PUnit.unit)))))
            (.leaf none))
           (.leaf none))
          (.leaf none))
         (.leaf none))
        (.leaf none))
       (.leaf none))
      (.leaf none))
     (.leaf none))
    (.leaf none))
   (.leaf none))
  (.leaf none)
def qStepBL0O : Ora := loopE true qStepBL0c qStepBL0T (fun a => 100)
theorem qStepBL0_ok : OraOk (envX Tryz.prog [(93, pNextE), (115, pAccept1E), (116, pFinE), (117, qDoE)] [] 8191 8) (.block 0 (.loop (bodyIn Tryz.f67.body 0))) qStepBL0O :=
  loop_part (envX_ok (l := [(93, pNextE), (115, pAccept1E), (116, pFinE), (117, qDoE)]) ⟨pNext_ok, pAccept1_ok, pFin_ok, qDo_ok, trivial⟩ [] 8191 8) (loopsOk_bare (by kernel_rfl)) (fun a => by kernel_rfl)
def qStepBE : Entry := .tree (evFunc (envX Tryz.prog [(93, pNextE), (115, pAccept1E), (116, pFinE), (117, qDoE)] [(0, qStepBL0O)] 8191 8) Tryz.f67)
theorem qStepB_ok : EntryOk Tryz.prog 67 qStepBE := inl_ok (P := Tryz.prog) (n := 8191) (k := 8) (l := [(93, pNextE), (115, pAccept1E), (116, pFinE), (117, qDoE)]) (ol := [(0, qStepBL0O)]) ⟨pNext_ok, pAccept1_ok, pFin_ok, qDo_ok, trivial⟩ Tryz.func67 rfl (by kernel_rfl) Tryz.call67 ⟨qStepBL0_ok, trivial⟩
abbrev iRunTs : List Sh := [Sh.agg rcCPU, Sh.one rcRG, Sh.one rcCE, Sh.one (R.sl (R.int IntKind.u8)), Sh.one (R.int IntKind.i64)]
abbrev iRunRs : Rs := Rs.tup [Sh.agg rcCPU, Sh.one rcCE, Sh.one (R.sl (R.pair (R.int IntKind.u8) (R.int IntKind.u8))), Sh.one (R.int IntKind.i64)]
def iRunL0c : LS := { n := 49, slots := [(4, .code (Sh.one (R.int IntKind.i64))), (5, .fix (A.loc 0 0)), (10, .fix (A.loc 1 0)), (13, .code (Sh.one (R.int IntKind.i64))), (14, .fix (A.loc 2 0))], boxes := [[.many rcCPU], [.many rcCPU], [.code rcRG, .code rcCE, .code (R.sl (R.int IntKind.u8)), .tip 0]], stgs := [⟨R.pair (R.int IntKind.u8) (R.int IntKind.u8), 134, true⟩] }
def iRunL0T (a : Int × Int × TC × TC × List (Int × Int × Bool × Int) × List (Int × Int) × List Int × List (Int × Int) × PUnit) : RT (Option (Go1 (Int × Int × TC × TC × List (Int × Int × Bool × Int) × List (Int × Int) × List Int × List (Int × Int) × PUnit))) :=
  let x1 : Int × List Int × TC × TC × List (Int × Int × Bool × Int) × List (Int × Int) × List Int × TC × (Bool × Bool × Bool × Bool × Bool × Bool × Bool × Bool × Bool) × TC × List (Int × Int) × List Int × PUnit := (0, [], a.2.2.1, a.2.2.2.1, a.2.2.2.2.1, a.2.2.2.2.2.1, a.2.2.2.2.2.2.1, rAccept a.2.2.1 0, (false, false, false, false, false, false, false, false, false), (0, (0, 0, 0, 0, 0, 0, 0, (false, false, false, false, false, false, false), 0, 0), false, false, false, 0, false, false, false, false, false, false, false), a.2.2.2.2.2.2.2.1, [], ())
  let x2 : Option (Bool × Int × List Int × TC × TC × List (Int × Int × Bool × Int) × List (Int × Int) × List Int × TC × (Bool × Bool × Bool × Bool × Bool × Bool × Bool × Bool × Bool) × TC × List (Int × Int) × List Int × PUnit) := runF true qStepBL0T (fun a_1 => 100) x1
  let x3 : Bool × Int × List Int × TC × TC × List (Int × Int × Bool × Int) × List (Int × Int) × List Int × TC × (Bool × Bool × Bool × Bool × Bool × Bool × Bool × Bool × Bool) × TC × List (Int × Int) × List Int × PUnit := getO (false, x1) x2
  let x4 : Bool := x3.1
  let x5 : TC × List (Int × Int × Bool × Int) × List (Int × Int) × List Int × TC × (Bool × Bool × Bool × Bool × Bool × Bool × Bool × Bool × Bool) × TC × List (Int × Int) × List Int × PUnit := x3.2.2.2.2
  let x6 : List (Int × Int × Bool × Int) × List (Int × Int) × List Int × TC × (Bool × Bool × Bool × Bool × Bool × Bool × Bool × Bool × Bool) × TC × List (Int × Int) × List Int × PUnit := x5.2
  let x7 : List (Int × Int) × List Int × TC × (Bool × Bool × Bool × Bool × Bool × Bool × Bool × Bool × Bool) × TC × List (Int × Int) × List Int × PUnit := x6.2
  let x8 : List Int × TC × (Bool × Bool × Bool × Bool × Bool × Bool × Bool × Bool × Bool) × TC × List (Int × Int) × List Int × PUnit := x7.2
  let x9 : TC × List (Int × Int) × List Int × PUnit := x8.2.2.2
  let x10 : TC := x9.1
  let x11 : Int := x10.1
  let x12 : TR × Bool × Bool × Bool × Int × Bool × Bool × Bool × Bool × Bool × Bool × Bool := x10.2
  let x13 : TR := x12.1
  let x14 : Int := x13.1
  let x15 : Int × Int × Int × Int × Int × Int × TF × Int × Int := x13.2
  let x16 : Int := x15.1
  let x17 : Int × Int × Int × Int × Int × TF × Int × Int := x15.2
  let x18 : Int := x17.1
  let x19 : Int × Int × Int × Int × TF × Int × Int := x17.2
  let x20 : Int := x19.1
  let x21 : Int × Int × Int × TF × Int × Int := x19.2
  let x22 : Int := x21.1
  let x23 : Int × Int × TF × Int × Int := x21.2
  let x24 : Int := x23.1
  let x25 : Int × TF × Int × Int := x23.2
  let x26 : Int := x25.1
  let x27 : TF × Int × Int := x25.2
  let x28 : TF := x27.1
  let x29 : Bool := x28.1
  let x30 : Bool × Bool × Bool × Bool × Bool × Bool := x28.2
  let x31 : Bool := x30.1
  let x32 : Bool × Bool × Bool × Bool × Bool := x30.2
  let x33 : Bool := x32.1
  let x34 : Bool × Bool × Bool × Bool := x32.2
  let x35 : Bool := x34.1
  let x36 : Bool × Bool × Bool := x34.2
  let x37 : Bool := x36.1
  let x38 : Bool × Bool := x36.2
  let x39 : Bool := x38.1
  let x40 : Bool := x38.2
  let x41 : Int × Int := x27.2
  let x42 : Int := x41.1
  let x43 : Int := x41.2
  let x44 : Bool × Bool × Bool × Int × Bool × Bool × Bool × Bool × Bool × Bool × Bool := x12.2
  let x45 : Bool := x44.1
  let x46 : Bool × Bool × Int × Bool × Bool × Bool × Bool × Bool × Bool × Bool := x44.2
  let x47 : Bool := x46.1
  let x48 : Bool × Int × Bool × Bool × Bool × Bool × Bool × Bool × Bool := x46.2
  let x49 : Bool := x48.1
  let x50 : Int × Bool × Bool × Bool × Bool × Bool × Bool × Bool := x48.2
  let x51 : Int := x50.1
  let x52 : TF := x50.2
  let x53 : Bool := x52.1
  let x54 : Bool × Bool × Bool × Bool × Bool × Bool := x52.2
  let x55 : Bool := x54.1
  let x56 : Bool × Bool × Bool × Bool × Bool := x54.2
  let x57 : Bool := x56.1
  let x58 : Bool × Bool × Bool × Bool := x56.2
  let x59 : Bool := x58.1
  let x60 : Bool × Bool × Bool := x58.2
  let x61 : Bool := x60.1
  let x62 : Bool × Bool := x60.2
  let x63 : Bool := x62.1
  let x64 : Bool := x62.2
  let x65 : TC := x5.1
  let x66 : Int := x65.1
  let x67 : TR × Bool × Bool × Bool × Int × Bool × Bool × Bool × Bool × Bool × Bool × Bool := x65.2
  let x68 : TR := x67.1
  let x69 : Int := x68.1
  let x70 : Int × Int × Int × Int × Int × Int × TF × Int × Int := x68.2
  let x71 : Int := x70.1
  let x72 : Int × Int × Int × Int × Int × TF × Int × Int := x70.2
  let x73 : Int := x72.1
  let x74 : Int × Int × Int × Int × TF × Int × Int := x72.2
  let x75 : Int := x74.1
  let x76 : Int × Int × Int × TF × Int × Int := x74.2
  let x77 : Int := x76.1
  let x78 : Int × Int × TF × Int × Int := x76.2
  let x79 : Int := x78.1
  let x80 : Int × TF × Int × Int := x78.2
  let x81 : Int := x80.1
  let x82 : TF × Int × Int := x80.2
  let x83 : TF := x82.1
  let x84 : Bool := x83.1
  let x85 : Bool × Bool × Bool × Bool × Bool × Bool := x83.2
  let x86 : Bool := x85.1
  let x87 : Bool × Bool × Bool × Bool × Bool := x85.2
  let x88 : Bool := x87.1
  let x89 : Bool × Bool × Bool × Bool := x87.2
  let x90 : Bool := x89.1
  let x91 : Bool × Bool × Bool := x89.2
  let x92 : Bool := x91.1
  let x93 : Bool × Bool := x91.2
  let x94 : Bool := x93.1
  let x95 : Bool := x93.2
  let x96 : Int × Int := x82.2
  let x97 : Int := x96.1
  let x98 : Int := x96.2
  let x99 : Bool × Bool × Bool × Int × Bool × Bool × Bool × Bool × Bool × Bool × Bool := x67.2
  let x100 : Bool := x99.1
  let x101 : Bool × Bool × Int × Bool × Bool × Bool × Bool × Bool × Bool × Bool := x99.2
  let x102 : Bool := x101.1
  let x103 : Bool × Int × Bool × Bool × Bool × Bool × Bool × Bool × Bool := x101.2
  let x104 : Bool := x103.1
  let x105 : Int × Bool × Bool × Bool × Bool × Bool × Bool × Bool := x103.2
  let x106 : Int := x105.1
  let x107 : TF := x105.2
  let x108 : Bool := x107.1
  let x109 : Bool × Bool × Bool × Bool × Bool × Bool := x107.2
  let x110 : Bool := x109.1
  let x111 : Bool × Bool × Bool × Bool × Bool := x109.2
  let x112 : Bool := x111.1
  let x113 : Bool × Bool × Bool × Bool := x111.2
  let x114 : Bool := x113.1
  let x115 : Bool × Bool × Bool := x113.2
  let x116 : Bool := x115.1
  let x117 : Bool × Bool := x115.2
  let x118 : Bool := x117.1
  let x119 : Bool := x117.2
  let x120 : List (Int × Int × Bool × Int) := x6.1
  let x121 : List (Int × Int) := x7.1
  let x122 : List Int := x8.1
  let x123 : List (Int × Int) := x9.2.1
  .br (decide (a.2.1 < if 10000 < a.1 then 10000 else a.1) && !a.2.2.1.2.2.2.2.1)
  (.br (okB x2)
   (.leaf (some (Go1.cont (a.1, IntKind.i64.wrap (a.2.1 + 1), (bif x4 then x11 else x11, (bif x4 then x14 else x14, bif x4 then x16 else x16, bif x4 then x18 else x18, bif x4 then x20 else x20, bif x4 then x22 else x22, bif x4 then x24 else x24, bif x4 then x26 else x26, (bif x4 then x29 else x29, bif x4 then x31 else x31, bif x4 then x33 else x33, bif x4 then x35 else x35, bif x4 then x37 else x37, bif x4 then x39 else x39, bif x4 then x40 else x40), bif x4 then x42 else x42, bif x4 then x43 else x43), bif x4 then x45 else x45, bif x4 then x47 else x47, bif x4 then x49 else x49, bif x4 then x51 else x51, bif x4 then x53 else x53, bif x4 then x55 else x55, bif x4 then x57 else x57, bif x4 then x59 else x59, bif x4 then x61 else x61, bif x4 then x63 else x63, bif x4 then x64 else x64), (bif x4 then x66 else x66, (bif x4 then x69 else x69, bif x4 then x71 else x71, bif x4 then x73 else x73, bif x4 then x75 else x75, bif x4 then x77 else x77, bif x4 then x79 else x79, bif x4 then x81 else x81, (bif x4 then x84 else x84, bif x4 then x86 else x86, bif x4 then x88 else x88, bif x4 then x90 else x90, bif x4 then x92 else x92, bif x4 then x94 else x94, bif x4 then x95 else x95), bif x4 then x97 else x97, bif x4 then x98 else x98), bif x4 then x100 else x100, bif x4 then x102 else x102, bif x4 then x104 else x104, bif x4 then x106 else x106, bif x4 then x108 else x108, bif x4 then x110 else x110, bif x4 then x112 else x112, bif x4 then x114 else x114, bif x4 then x116 else x116, bif x4 then x118 else x118, bif x4 then x119 else x119), bif x4 then x120 else x120, bif x4 then x121 else x121, bif x4 then x122 else x122, bif x4 then x123 else x123, PUnit.unit))))
   (.leaf none))
  (.leaf (some (Go1.brk (a.1, a.2.1, a.2.2.1, a.2.2.2.1, a.2.2.2.2.1, a.2.2.2.2.2.1, a.2.2.2.2.2.2.1, a.2.2.2.2.2.2.2.1, PUnit.unit))))
def iRunL0O : Ora := loopE false iRunL0c iRunL0T (fun a => 20000)
theorem iRunL0_ok : OraOk (envX Tryz.prog [(66, isisa_normalE), (67, qStepBE)] [] 32767 8) (.block 0 (.loop (bodyIn Tryz.f24.body 0))) iRunL0O :=
  loop_part (envX_ok (l := [(66, isisa_normalE), (67, qStepBE)]) ⟨isisa_normal_ok, qStepB_ok, trivial⟩ [] 32767 8) (loopsOk_bare (by kernel_rfl)) (fun a => by kernel_rfl)
def iRunT (c : TC) (rg : List (Int × Int × Bool × Int)) (m : List (Int × Int)) (ins : List Int) (k : Int) : RT (Option (TC × List (Int × Int) × List (Int × Int) × Int)) :=
  let x1 : Int × Int × TC × TC × List (Int × Int × Bool × Int) × List (Int × Int) × List Int × List (Int × Int) × PUnit := (k, 0, c, (0, (0, 0, 0, 0, 0, 0, 0, (false, false, false, false, false, false, false), 0, 0), false, false, false, 0, false, false, false, false, false, false, false), rg, Cells.normX m, ins, [], ())
  let x2 : Option (Bool × Int × Int × TC × TC × List (Int × Int × Bool × Int) × List (Int × Int) × List Int × List (Int × Int) × PUnit) := runF false iRunL0T (fun a => 20000) x1
  let x3 : Int × TC × TC × List (Int × Int × Bool × Int) × List (Int × Int) × List Int × List (Int × Int) × PUnit := (getO (false, x1) x2).2.2
  let x4 : TC × TC × List (Int × Int × Bool × Int) × List (Int × Int) × List Int × List (Int × Int) × PUnit := x3.2
  let x5 : List (Int × Int) × List Int × List (Int × Int) × PUnit := x4.2.2.2
  .br (smC m)
  (.br (okB x2)
   (.leaf (some ((x4.1, x5.1, x5.2.2.1, x3.1))))
   (.leaf none))
  (.leaf none)
def iRun (c : TC) (rg : List (Int × Int × Bool × Int)) (m : List (Int × Int)) (ins : List Int) (k : Int) : TC × List (Int × Int) × List (Int × Int) × Int := getO iRunRs.dflt (iRunT c rg m ins k).val
def iRunC (c : TC) (rg : List (Int × Int × Bool × Int)) (m : List (Int × Int)) (ins : List Int) (k : Int) : Bool := okB (iRunT c rg m ins k).val
def iRunE : Entry := pureE iRunTs iRunRs (fun a => some (iRunC a.1 a.2.1 a.2.2.1 a.2.2.2.1 a.2.2.2.2)) (fun a => iRun a.1 a.2.1 a.2.2.1 a.2.2.2.1 a.2.2.2.2)
theorem iRun_ok : EntryOk Tryz.prog 24 iRunE :=
  pure_part (P := Tryz.prog) (n := 32767) (k := 8) (l := [(66, isisa_normalE), (67, qStepBE)]) (ol := [(0, iRunL0O)]) ⟨isisa_normal_ok, qStepB_ok, trivial⟩ Tryz.func24 rfl (by kernel_rfl) Tryz.call24 ⟨iRunL0_ok, trivial⟩ (ts := iRunTs) (rs := iRunRs) (t := fun a => iRunT a.1 a.2.1 a.2.2.1 a.2.2.2.1 a.2.2.2.2) (fun a => by kernel_rfl)
abbrev jOutsTs : List Sh := [Sh.one (R.sl (R.pair (R.int IntKind.u8) (R.int IntKind.u8))), Sh.one (R.sl (R.pair (R.int IntKind.u8) (R.int IntKind.u8)))]
abbrev jOutsRs : Rs := Rs.one (Sh.one R.bool)
def jOutsL0c : LS := { n := 26, slots := [(0, .code (Sh.one (R.sl (R.pair (R.int IntKind.u8) (R.int IntKind.u8))))), (1, .code (Sh.one (R.sl (R.pair (R.int IntKind.u8) (R.int IntKind.u8))))), (4, .code (Sh.one R.bool)), (12, .code (Sh.one (R.int IntKind.i64))), (13, .code (Sh.one (R.int IntKind.i64)))], boxes := [], stgs := [] }
def jOutsL0T (a : List (Int × Int) × List (Int × Int) × Bool × Int × Int × PUnit) : RT (Option (Go1 (List (Int × Int) × List (Int × Int) × Bool × Int × Int × PUnit))) :=
  let x1 : Bool := !inRng a.2.2.2.2.1 (List.length a.1) || inRng a.2.2.2.2.1 (List.length a.2.1)
  let x2 : Int × Int := R.get (R.pair (R.int IntKind.u8) (R.int IntKind.u8)) a.1 a.2.2.2.2.1
  let x3 : Int × Int := R.get (R.pair (R.int IntKind.u8) (R.int IntKind.u8)) a.2.1 a.2.2.2.2.1
  let x4 : Int × Int × PUnit := (a.2.2.2.1, a.2.2.2.2.1, PUnit.unit)
  .br (decide (a.2.2.2.2.1 < a.2.2.2.1))
  (.br (!x1 || inRng a.2.2.2.2.1 (List.length a.1))
   (.br (x1)
    (.br (!(x2.1 == x3.1 && (x2.2 == x3.2 && true)))
     (.leaf (some (Go1.ret (a.1, a.2.1, false, x4))))
     (.leaf (some (Go1.cont (a.1, a.2.1, a.2.2.1, a.2.2.2.1, IntKind.i64.wrap (a.2.2.2.2.1 + 1), PUnit.unit)))))
    (.leaf none))
   (.leaf none))
  (.leaf (some (Go1.brk (a.1, a.2.1, a.2.2.1, x4))))
def jOutsL0O : Ora := loopE true jOutsL0c jOutsL0T (fun a => 1000000000000)
theorem jOutsL0_ok : OraOk (envX Tryz.prog [] [] 63 8) (.block 0 (.loop (bodyIn Tryz.f26.body 0))) jOutsL0O :=
  loop_part (envX_ok (l := []) trivial [] 63 8) (loopsOk_bare (by kernel_rfl)) (fun a => by kernel_rfl)
def jOutsT (a : List (Int × Int)) (b : List (Int × Int)) : RT (Option (Bool)) :=
  let x1 : Option (Bool × List (Int × Int) × List (Int × Int) × Bool × Int × Int × PUnit) := runF true jOutsL0T (fun a_1 => 1000000000000) (a, b, false, iN (List.length a), 0, ())
  let x2 : Bool × List (Int × Int) × List (Int × Int) × Bool × Int × Int × PUnit := getO (false, a, b, false, iN (List.length a), 0, ()) x1
  .br (iN (List.length a) != iN (List.length b))
  (.leaf (some (false)))
  (.br (okB x1)
   (.br x2.1
    (.leaf (some x2.2.2.2.1))
    (.leaf (some (true))))
   (.leaf none))
def jOuts (a : List (Int × Int)) (b : List (Int × Int)) : Bool := getO jOutsRs.dflt (jOutsT a b).val
def jOutsC (a : List (Int × Int)) (b : List (Int × Int)) : Bool := okB (jOutsT a b).val
def jOutsE : Entry := pureE jOutsTs jOutsRs (fun a => some (jOutsC a.1 a.2)) (fun a => jOuts a.1 a.2)
theorem jOuts_ok : EntryOk Tryz.prog 26 jOutsE :=
  pure_part (P := Tryz.prog) (n := 63) (k := 8) (l := []) (ol := [(0, jOutsL0O)]) trivial Tryz.func26 rfl (by kernel_rfl) Tryz.call26 ⟨jOutsL0_ok, trivial⟩ (ts := jOutsTs) (rs := jOutsRs) (t := fun a => jOutsT a.1 a.2) (fun a => by kernel_rfl)
end
end Go.Proofs.YtpkijkmagnhciaaGreat
open Go Go.S3 Go.Proofs Go.Proofs.Cells
set_option linter.unusedVariables false
set_option linter.unusedSimpArgs false
set_option maxRecDepth 100000
namespace Go.Proofs.YtpkijkmagnhciaaGreat
noncomputable section
abbrev MacT := List RegionT × List Cell × List Int × List (Int × Int)
def doX (x : Cyc) (m : MacT) : Int × MacT :=
  bif x.1 == 1 || (x.1 == 2 || x.1 == 4) then (readMX m.1 m.2.1 x.2.1, m)
  else bif x.1 == 3 || x.1 == 5 then (x.2.2.1, (m.1, writeMX m.1 m.2.1 x.2.1 x.2.2.1, m.2.2))
  else bif x.1 == 7 then (x.2.2.1, (m.1, m.2.1, m.2.2.1, m.2.2.2 ++ [(IntKind.wrap .u8 x.2.1, x.2.2.1)]))
  else bif x.1 == 6 || (x.1 == 8 || x.1 == 9) then (m.2.2.1.getD 0 0, (m.1, m.2.1, m.2.2.1.drop 1, m.2.2.2))
  else (0, m)
def goX (c : CpuT) (s : Int) : Nat → List Int → MacT → List Int × MacT
  | 0, g, m => (g, m)
  | n + 1, g, m => bif (nextX c s g).2 then goX c s n (g ++ [(doX (nextX c s g).1 m).1]) (doX (nextX c s g).1 m).2 else (g, m)
def stepX (c : CpuT) (s : Int) (l : LnT) (m : MacT) : CpuT × MacT × List Int :=
  (finX (rAccept c s) s (goX (rAccept c s) s 6 [] m).1 l, (goX (rAccept c s) s 6 [] m).2, (goX (rAccept c s) s 6 [] m).1)
def noL : LnT := (false, false, false, false, false, false, false, false, false)
def runX : Nat → CpuT → MacT → Int → CpuT × MacT × Int
  | 0, c, m, u => (c, m, u)
  | n + 1, c, m, u => bif c.2.2.2.2.1 then (c, m, u) else runX n (stepX c 0 noL m).1 (stepX c 0 noL m).2.1 (u + 1)
theorem cle {b : Bool} {x y : List Cyc} {n : Nat} (hx : x.length ≤ n) (hy : y.length ≤ n) : (bif b then x else y).length ≤ n := by cases b <;> assumption
theorem body_len (c : CpuT) (inj : Bool) (g : List Int) (i : InsT) : (bodyX c inj g i).length ≤ 4 := by
  unfold bodyX
  simp only [targetX, readW, writeW, pushX, popX]
  repeat' apply cle
  all_goals first
    | (simp only [List.length_cons, List.length_nil, List.length_append]; omega)
    | (cases i.2.2.1 == 6 <;> cases takenX c i <;> cases c.1 == 2 <;> simp; done)
    | skip
theorem plan_len (c : CpuT) (s : Int) (g : List Int) : (planX c s g).length ≤ 5 := by
  have h := fun o => body_len c (s == 5) g (rDecode c.1 o)
  unfold planX
  cases g with
  | nil => exact cle (by simp [pushX]) (by simp)
  | cons o l => exact cle (by simp [pushX]) (by simpa using h o)
theorem next_end (c : CpuT) (s : Int) (g : List Int) (h : 5 ≤ g.length) : (nextX c s g).2 = false := by
  have hp := plan_len c s g
  unfold nextX
  simp [pick]; omega
end
end Go.Proofs.YtpkijkmagnhciaaGreat
open Go Go.S3 Go.Proofs Go.Proofs.Cells
set_option linter.unusedVariables false
set_option linter.unusedSimpArgs false
set_option maxRecDepth 100000
namespace Go.Proofs.YtpkijkmagnhciaaGreat
noncomputable section
theorem write_vld (l : List RegionT) (m : List Cell) (t v : Int) : Vld (writeMX l m t v) := by
  unfold writeMX
  cases decide (findX l t ≥ 0) && (R.get GR l (findX l t)).2.2.1
  · exact normX_vld m
  · exact putX_vld (normX_vld m)
theorem write_len (l : List RegionT) (m : List Cell) (t v : Int) : (writeMX l m t v).length ≤ m.length + 1 := by
  have h := normX_len m
  unfold writeMX
  cases decide (findX l t ≥ 0) && (R.get GR l (findX l t)).2.2.1
  · exact Nat.le_trans h (Nat.le_succ _)
  · exact Nat.le_trans (putX_len _ _) (by omega)
theorem do_inv (x : Cyc) (m : MacT) : (doX x m).2.1 = m.1 ∧ (Vld m.2.1 → Vld (doX x m).2.2.1) ∧ (doX x m).2.2.1.length ≤ m.2.1.length + 1 ∧
    (doX x m).2.2.2.1.length ≤ m.2.2.1.length ∧ (doX x m).2.2.2.2.length ≤ m.2.2.2.length + 1 := by
  unfold doX
  have hl := write_len m.1 m.2.1 x.2.1 x.2.2.1
  have hv := write_vld m.1 m.2.1 x.2.1 x.2.2.1
  cases x.1 == 1 || (x.1 == 2 || x.1 == 4)
  · cases x.1 == 3 || x.1 == 5
    · cases x.1 == 7
      · cases x.1 == 6 || (x.1 == 8 || x.1 == 9)
        · exact ⟨rfl, id, by simp, by simp, by simp⟩
        · exact ⟨rfl, id, by simp, by simp, by simp⟩
      · exact ⟨rfl, id, by simp, by simp, by simp⟩
    · exact ⟨rfl, fun _ => hv, hl, by simp, by simp⟩
  · exact ⟨rfl, id, by simp, by simp, by simp⟩
def pre (o : List (Int × Int)) (m : MacT) : MacT := (m.1, m.2.1, m.2.2.1, o ++ m.2.2.2)
theorem do_pre (x : Cyc) (o) (m : MacT) : doX x (pre o m) = ((doX x m).1, pre o (doX x m).2) := by
  unfold doX
  cases x.1 == 1 || (x.1 == 2 || x.1 == 4)
  · cases x.1 == 3 || x.1 == 5
    · cases x.1 == 7
      · cases x.1 == 6 || (x.1 == 8 || x.1 == 9) <;> rfl
      · simp [pre]
    · rfl
  · rfl
theorem go_pre (c : CpuT) (s : Int) (o) : ∀ (n : Nat) (g : List Int) (m : MacT), goX c s n g (pre o m) = ((goX c s n g m).1, pre o (goX c s n g m).2)
  | 0, g, m => rfl
  | n + 1, g, m => by
    unfold goX
    rw [do_pre]
    cases (nextX c s g).2
    · rfl
    · exact go_pre c s o n _ _
theorem step_pre (c : CpuT) (s : Int) (l : LnT) (o) (m : MacT) : stepX c s l (pre o m) = ((stepX c s l m).1, pre o (stepX c s l m).2.1, (stepX c s l m).2.2) := by
  unfold stepX
  rw [go_pre]
theorem run_pre (o) : ∀ (n : Nat) (c : CpuT) (m : MacT) (u : Int), runX n c (pre o m) u = ((runX n c m u).1, pre o (runX n c m u).2.1, (runX n c m u).2.2)
  | 0, c, m, u => rfl
  | n + 1, c, m, u => by
    unfold runX
    rw [step_pre]
    cases c.2.2.2.2.1
    · exact run_pre o n _ _ _
    · rfl
theorem run_used (k : Int) : ∀ (n : Nat) (c : CpuT) (m : MacT) (u : Int), runX n c m (u + k) = ((runX n c m u).1, (runX n c m u).2.1, (runX n c m u).2.2 + k)
  | 0, c, m, u => rfl
  | n + 1, c, m, u => by
    unfold runX
    cases c.2.2.2.2.1
    · have := run_used k n (stepX c 0 noL m).1 (stepX c 0 noL m).2.1 (u + 1)
      rw [show u + 1 + k = u + k + 1 by omega] at this
      exact this
    · rfl
theorem run_halt (n : Nat) (c : CpuT) (m : MacT) (u : Int) (h : c.2.2.2.2.1 = true) : runX n c m u = (c, m, u) := by
  cases n <;> simp [runX, h]
theorem run_succ (n : Nat) (c : CpuT) (m : MacT) (u : Int) : runX (n + 1) c m u = bif c.2.2.2.2.1 then (c, m, u) else runX n (stepX c 0 noL m).1 (stepX c 0 noL m).2.1 (u + 1) := rfl
theorem run_add : ∀ (n k : Nat) (c : CpuT) (m : MacT) (u : Int), runX (n + k) c m u = runX k (runX n c m u).1 (runX n c m u).2.1 (runX n c m u).2.2
  | 0, k, c, m, u => by rw [Nat.zero_add]; rfl
  | n + 1, k, c, m, u => by
    rw [show n + 1 + k = (n + k) + 1 by omega, run_succ, run_succ]
    cases h : c.2.2.2.2.1
    · simp only [cond_false]; exact run_add n k _ _ _
    · simp only [cond_true]; rw [run_halt k c m u h]
theorem go_inv (c : CpuT) (s : Int) : ∀ (n : Nat) (g : List Int) (m : MacT), (goX c s n g m).2.1 = m.1 ∧ (Vld m.2.1 → Vld (goX c s n g m).2.2.1) ∧ (goX c s n g m).2.2.1.length ≤ m.2.1.length + n ∧
    (goX c s n g m).2.2.2.1.length ≤ m.2.2.1.length ∧ (goX c s n g m).2.2.2.2.length ≤ m.2.2.2.length + n
  | 0, g, m => ⟨rfl, id, Nat.le_refl _, Nat.le_refl _, Nat.le_refl _⟩
  | n + 1, g, m => by
    unfold goX
    cases (nextX c s g).2
    · exact ⟨rfl, id, Nat.le_add_right _ _, Nat.le_refl _, Nat.le_add_right _ _⟩
    · have h1 := do_inv (nextX c s g).1 m
      have h2 := go_inv c s n (g ++ [(doX (nextX c s g).1 m).1]) (doX (nextX c s g).1 m).2
      exact ⟨h2.1.trans h1.1, fun h => h2.2.1 (h1.2.1 h), Nat.le_trans h2.2.2.1 (by omega), Nat.le_trans h2.2.2.2.1 h1.2.2.2.1, Nat.le_trans h2.2.2.2.2 (by omega)⟩
theorem run_inv : ∀ (n : Nat) (c : CpuT) (m : MacT) (u : Int), (runX n c m u).2.1.1 = m.1 ∧ (Vld m.2.1 → Vld (runX n c m u).2.1.2.1) ∧ (runX n c m u).2.1.2.1.length ≤ m.2.1.length + 6 * n ∧
    (runX n c m u).2.1.2.2.1.length ≤ m.2.2.1.length ∧ (runX n c m u).2.1.2.2.2.length ≤ m.2.2.2.length + 6 * n
  | 0, c, m, u => ⟨rfl, id, Nat.le_refl _, Nat.le_refl _, Nat.le_refl _⟩
  | n + 1, c, m, u => by
    unfold runX
    cases c.2.2.2.2.1
    · have h1 := go_inv (rAccept c 0) 0 6 [] m
      have h2 := run_inv n (stepX c 0 noL m).1 (stepX c 0 noL m).2.1 (u + 1)
      simp only [stepX] at h2 ⊢
      exact ⟨h2.1.trans h1.1, fun h => h2.2.1 (h1.2.1 h), Nat.le_trans h2.2.2.1 (by omega), Nat.le_trans h2.2.2.2.1 h1.2.2.2.1, Nat.le_trans h2.2.2.2.2 (by omega)⟩
    · exact ⟨rfl, id, Nat.le_add_right _ _, Nat.le_refl _, Nat.le_add_right _ _⟩
end
end Go.Proofs.YtpkijkmagnhciaaGreat
open Go Go.S3 Go.Proofs Go.Proofs.Cells
set_option linter.unusedVariables false
set_option linter.unusedSimpArgs false
set_option maxRecDepth 100000
namespace Go.Proofs.YtpkijkmagnhciaaGreat
noncomputable section
theorem cor (a b : Bool) : (bif a then a else b) = (a || b) := by cases a <;> rfl
theorem isn_ok (l : List Int) : (iN l.length == 0 || inRng 0 l.length) = true := by
  cases l with
  | nil => rfl
  | cons x l => simp [iN, inRng]
theorem isn_ok2 (l : List Int) : (iN l.length == 0 || (!inRng 0 l.length || decide (0 ≤ 1) && decide (1 ≤ iN l.length) && (decide (iN l.length = 0) || decide (iN l.length ≤ iN l.length)))) = true := by
  cases l with
  | nil => rfl
  | cons x l => simp [iN, inRng]; omega
theorem isn_get (l g : List Int) : (bif iN l.length == 0 then g ++ [0] else g ++ [R.get (R.int .u8) l 0]) = g ++ [l.getD 0 0] := by
  cases l with
  | nil => rfl
  | cons x l =>
    have : (iN (x :: l).length == 0) = false := by simp [iN]; omega
    rw [this]; rfl
theorem isn_tl (l : List Int) : (bif iN l.length == 0 then l else subL l 1 (iN l.length)) = l.drop 1 := by
  cases l with
  | nil => rfl
  | cons x l =>
    have : (iN (x :: l).length == 0) = false := by simp [iN]; omega
    rw [this]
    simp [subL, iN]
theorem goX_succ (c : CpuT) (s : Int) (n : Nat) (g : List Int) (m : MacT) : goX c s (n + 1) g m = bif (nextX c s g).2 then goX c s n (g ++ [(doX (nextX c s g).1 m).1]) (doX (nextX c s g).1 m).2 else (g, m) := rfl
structure Rm (rg : List RegionT) (m : List Cell) (outs : List (Int × Int)) (g : List Int) : Prop where
  r : smG rg = true
  m : smC m = true
  o : ∀ x, Nat.ble (outs ++ [x]).length most = true
  g : ∀ x, Nat.ble (g ++ [x]).length most = true
theorem iB_step (s g0 c0 cz rg m ins c l cz2 outs g) (h : Rm rg m outs g) :
    (qStepBL0T (s, g0, c0, cz, rg, m, ins, c, l, cz2, outs, g, ())).val = some (bif (nextX c s g).2 then
      Go1.cont (s, g0, c0, cz, rg, (doX (nextX c s g).1 (rg, m, ins, outs)).2.2.1, (doX (nextX c s g).1 (rg, m, ins, outs)).2.2.2.1, c, l, cz2, (doX (nextX c s g).1 (rg, m, ins, outs)).2.2.2.2, g ++ [(doX (nextX c s g).1 (rg, m, ins, outs)).1], ())
      else Go1.ret (s, g, c0, cz, rg, m, ins, c, l, finX c s g l, outs, g, ())) := by
  have i1 := isn_ok ins
  have i2 := isn_ok2 ins
  have i3 := isn_get ins g
  have i4 := isn_tl ins
  simp only [qStepBL0T, RT.val, cor, h.r, h.m, h.o, h.g, i1, i2, Bool.or_true, Bool.true_or, Bool.not_true, Bool.false_or, Bool.or_false, Bool.and_self, cond_true]
  cases (nextX c s g).2
  · rfl
  · simp only [Bool.not_true, cond_false, cond_true, i3, i4]
    unfold doX
    generalize (nextX c s g).1 = x
    cases x.1 == 1 || (x.1 == 2 || x.1 == 4)
    · cases x.1 == 3 || x.1 == 5
      · cases x.1 == 7
        · cases x.1 == 6 || (x.1 == 8 || x.1 == 9) <;> rfl
        · rfl
      · rfl
    · rfl
def gOfiB_run (a : Int × List Int × CpuT × CpuT × List RegionT × List Cell × List Int × CpuT × LnT × CpuT × List (Int × Int) × List Int × PUnit) : List Int := a.2.2.2.2.2.2.2.2.2.2.2.1
theorem iB_run (A : List Int × CpuT × CpuT × CpuT) (c : CpuT) (s : Int) (l : LnT) (M0 : MacT) (hr : smG M0.1 = true) (hm : M0.2.1.length + 20 ≤ most) (ho : M0.2.2.2.length + 20 ≤ most) :
    ∃ r, runF true qStepBL0T (fun _ => 100) (s, A.1, A.2.1, A.2.2.1, M0.1, M0.2.1, M0.2.2.1, c, l, A.2.2.2, M0.2.2.2, [], ()) = some r ∧ r = (true, s, (goX c s 6 [] M0).1, A.2.1, A.2.2.1, M0.1, (goX c s 6 [] M0).2.2.1, (goX c s 6 [] M0).2.2.2.1, c, l, finX c s (goX c s 6 [] M0).1 l, (goX c s 6 [] M0).2.2.2.2, (goX c s 6 [] M0).1, ()) := by
  have hms := mst
  obtain ⟨r, h1, h2⟩ := runF_ind (fl := true) (t := qStepBL0T) (fuel := fun _ => 100)
    (fun a => ∃ (g : List Int) (M : MacT), a = (s, A.1, A.2.1, A.2.2.1, M0.1, M.2.1, M.2.2.1, c, l, A.2.2.2, M.2.2.2, g, ()) ∧ M.1 = M0.1 ∧ g.length ≤ 5 ∧ goX c s (6 - g.length) g M = goX c s 6 [] M0 ∧ M.2.1.length ≤ M0.2.1.length + g.length ∧ M.2.2.2.length ≤ M0.2.2.2.length + g.length)
    (fun a => 6 - (gOfiB_run a).length) (fun r => r = (true, s, (goX c s 6 [] M0).1, A.2.1, A.2.2.1, M0.1, (goX c s 6 [] M0).2.2.1, (goX c s 6 [] M0).2.2.2.1, c, l, finX c s (goX c s 6 [] M0).1 l, (goX c s 6 [] M0).2.2.2.2, (goX c s 6 [] M0).1, ()))
    (by
      rintro a ⟨g, M, rfl, hM, hg, hR, hl, hq⟩
      have rm : Rm M0.1 M.2.1 M.2.2.2 g := ⟨hr, by rw [show smC M.2.1 = sm M.2.1 from rfl, sm_iff]; omega, fun x => by rw [Nat.ble_eq]; simp; omega, fun x => by rw [Nat.ble_eq]; simp; omega⟩
      have hs := iB_step s A.1 A.2.1 A.2.2.1 M0.1 M.2.1 M.2.2.1 c l A.2.2.2 M.2.2.2 g rm
      have e6 : 6 - g.length = (5 - g.length) + 1 := by omega
      rw [e6] at hR
      have hMe : M = (M0.1, M.2.1, M.2.2.1, M.2.2.2) := by rw [← hM]
      cases hn : (nextX c s g).2
      · right; right
        rw [hn, cond_false] at hs
        refine ⟨_, rfl, hs, ?_⟩
        rw [goX_succ c s (5 - g.length) g M, hn, cond_false] at hR
        rw [← hR]
      · left
        rw [hn, cond_true, ← hMe] at hs
        have h5 : g.length < 5 := by
          refine Nat.lt_of_not_le fun h => ?_
          rw [next_end c s g h] at hn; simp at hn
        have hd := do_inv (nextX c s g).1 M
        rw [goX_succ c s (5 - g.length) g M, hn, cond_true] at hR
        refine ⟨_, hs, ⟨g ++ [(doX (nextX c s g).1 M).1], (doX (nextX c s g).1 M).2, rfl, hd.1.trans hM, by simp; omega, ?_, ?_, ?_⟩, ?_⟩
        · rw [show 6 - (g ++ [(doX (nextX c s g).1 M).1]).length = 5 - g.length by simp only [List.length_append, List.length_singleton]; omega]; exact hR
        · have := hd.2.2.1; simp; omega
        · have := hd.2.2.2.2; simp; omega
        · simp [gOfiB_run]; omega)
    (s, A.1, A.2.1, A.2.2.1, M0.1, M0.2.1, M0.2.2.1, c, l, A.2.2.2, M0.2.2.2, [], ()) ⟨[], M0, rfl, rfl, by simp, rfl, by simp, by simp⟩ (by simp [gOfiB_run])
  exact ⟨r, h1, h2⟩
end
end Go.Proofs.YtpkijkmagnhciaaGreat
open Go Go.S3 Go.Proofs Go.Proofs.Cells
set_option linter.unusedVariables false
set_option linter.unusedSimpArgs false
set_option maxRecDepth 100000
namespace Go.Proofs.YtpkijkmagnhciaaGreat
noncomputable section
def czX : CpuT := (0, (0, 0, 0, 0, 0, 0, 0, (false, false, false, false, false, false, false), 0, 0), false, false, false, 0, false, false, false, false, false, false, false)
def startX (rg : List RegionT) (m : List Cell) (ins : List Int) : MacT := (rg, normX m, ins, [])
def limK (k : Int) : Int := if 10000 < k then 10000 else k
def runR (c : CpuT) (rg : List RegionT) (m : List Cell) (ins : List Int) (k : Int) : CpuT × List Cell × List (Int × Int) × Int :=
  let r := runX (limK k).toNat c (startX rg m ins) 0
  (r.1, r.2.1.2.1, r.2.1.2.2.2, r.2.2)
theorem i_run (c : CpuT) (rg : List RegionT) (m : List Cell) (ins : List Int) (k : Int) (hr : smG rg = true) (hm : m.length + 100000 ≤ most) :
    iRunC c rg m ins k = true ∧ iRun c rg m ins k = runR c rg m ins k := by
  have hms := mst
  have hl := normX_len m
  have hs : smC m = true := by show sm m = true; rw [sm_iff]; omega
  have hk : (limK k).toNat ≤ 10000 := by unfold limK; split <;> omega
  obtain ⟨r, h1, h2⟩ := runF_ind (fl := false) (t := iRunL0T) (fuel := fun _ => 20000)
    (fun a => ∃ (n : Nat) (c' : CpuT) (M : MacT) (u : Nat), a = (k, (u : Int), c', czX, rg, M.2.1, M.2.2.1, M.2.2.2, ()) ∧ M.1 = rg ∧ n + u = (limK k).toNat ∧ runX n c' M u = runX (limK k).toNat c (startX rg m ins) 0 ∧ M.2.1.length ≤ m.length + 6 * u ∧ M.2.2.2.length ≤ 6 * u)
    (fun a => 10001 - Int.toNat a.2.1) (fun r => ∃ rest, r = (false, (k, (runX (limK k).toNat c (startX rg m ins) 0).2.2, (runX (limK k).toNat c (startX rg m ins) 0).1, czX, rg, (runX (limK k).toNat c (startX rg m ins) 0).2.1.2.1, rest, (runX (limK k).toNat c (startX rg m ins) 0).2.1.2.2.2, ())))
    (by
      rintro a ⟨n, c', M, u, rfl, hM, hn, hR, hq1, hq2⟩
      have hMe : M = (rg, M.2.1, M.2.2.1, M.2.2.2) := by rw [← hM]
      have hlt : decide ((u : Int) < limK k) = decide (0 < n) := by
        by_cases h0 : 0 < n
        · rw [decide_eq_true h0, decide_eq_true]; omega
        · rw [decide_eq_false h0, decide_eq_false]; omega
      cases n with
      | zero =>
        right; left
        refine ⟨(k, (u : Int), c', czX, rg, M.2.1, M.2.2.1, M.2.2.2, ()), ?_, M.2.2.1, ?_⟩
        · have : (decide ((u : Int) < if 10000 < k then 10000 else k) && !c'.2.2.2.2.1) = false := by
            show (decide ((u : Int) < limK k) && _) = false
            rw [hlt]; rfl
          simp only [iRunL0T, RT.val, this, cond_false]
        · rw [← hR]; rfl
      | succ n =>
        rw [run_succ] at hR
        cases hh : c'.2.2.2.2.1 with
        | true =>
          right; left
          refine ⟨(k, (u : Int), c', czX, rg, M.2.1, M.2.2.1, M.2.2.2, ()), ?_, M.2.2.1, ?_⟩
          · have : (decide ((u : Int) < if 10000 < k then 10000 else k) && !c'.2.2.2.2.1) = false := by rw [hh]; simp
            simp only [iRunL0T, RT.val, this, cond_false]
          · rw [hh, cond_true] at hR
            rw [← hR]
        | false =>
          left
          rw [hh, cond_false] at hR
          obtain ⟨r, h1, h2⟩ := iB_run ([], c', czX, czX) (rAccept c' 0) 0 noL M (by rw [hM]; exact hr) (by omega) (by omega)
          subst h2
          rw [hM] at h1
          simp only [noL, czX] at h1
          have hc : (decide ((u : Int) < if 10000 < k then 10000 else k) && !c'.2.2.2.2.1) = true := by
            show (decide ((u : Int) < limK k) && _) = true
            rw [hlt, hh]; simp
          have gi := go_inv (rAccept c' 0) 0 6 [] M
          refine ⟨(k, ((u + 1 : Nat) : Int), (stepX c' 0 noL M).1, czX, rg, (stepX c' 0 noL M).2.1.2.1, (stepX c' 0 noL M).2.1.2.2.1, (stepX c' 0 noL M).2.1.2.2.2, ()), ?_, ⟨n, (stepX c' 0 noL M).1, (stepX c' 0 noL M).2.1, u + 1, rfl, ?_, by omega, ?_, ?_, ?_⟩, ?_⟩
          · simp only [iRunL0T, RT.val, hc, czX, h1, okB, getO, cond_true]
            rw [wadd1 u (by omega)]
            rfl
          · exact gi.1.trans hM
          · exact hR
          · have := gi.2.2.1; simp only [stepX]; omega
          · have := gi.2.2.2.2; simp only [stepX]; omega
          · simp only; omega)
    (k, 0, c, czX, rg, normX m, ins, [], ()) ⟨(limK k).toNat, c, startX rg m ins, 0, rfl, rfl, by omega, rfl, by show (normX m).length ≤ _; omega, by simp [startX]⟩ (by simp)
  obtain ⟨rest, rfl⟩ := h2
  simp only [czX] at h1
  have hv : (iRunT c rg m ins k).val = some (runR c rg m ins k) := by
    simp only [iRunT, RT.val, hs, h1, okB, getO, cond_true]
    rfl
  exact ⟨by simp only [iRunC, hv]; rfl, by simp only [iRun, hv, getO]⟩
end
end Go.Proofs.YtpkijkmagnhciaaGreat
set_option linter.unusedSimpArgs false
open Go Go.S3 Go.Proofs
set_option linter.unusedVariables false
set_option maxRecDepth 100000
namespace Go.Proofs.YtpkijkmagnhciaaGreat
noncomputable section
end
end Go.Proofs.YtpkijkmagnhciaaGreat
set_option linter.unusedSimpArgs false
open Go Go.S3 Go.Proofs
set_option linter.unusedVariables false
set_option maxRecDepth 100000
namespace Go.Proofs.YtpkijkmagnhciaaGreat
noncomputable section
end
end Go.Proofs.YtpkijkmagnhciaaGreat
set_option linter.unusedSimpArgs false
open Go Go.S3 Go.Proofs
set_option linter.unusedVariables false
set_option maxRecDepth 100000
namespace Go.Proofs.YtpkijkmagnhciaaGreat
noncomputable section
end
end Go.Proofs.YtpkijkmagnhciaaGreat
set_option linter.unusedSimpArgs false
open Go Go.S3 Go.Proofs
set_option linter.unusedVariables false
set_option maxRecDepth 100000
namespace Go.Proofs.YtpkijkmagnhciaaGreat
noncomputable section
abbrev rPutNRe : R := R.pair (R.int IntKind.u16) (R.int IntKind.u8)
abbrev rPutNEl : Nat := 145
abbrev rPutNTs : List Sh := [Sh.one rcCE, Sh.agg (R.pair (R.int IntKind.u16) (R.int IntKind.u8))]
def rPutNL0c : LS := { n := 53, slots := [(3, .fix (A.loc 0 0)), (5, .tip 0), (6, .code (Sh.one R.bool)), (9, .code (Sh.one rcCE)), (10, .code (Sh.one (R.int IntKind.i64))), (11, .code (Sh.one (R.int IntKind.i64)))], boxes := [[.many (R.pair (R.int IntKind.u16) (R.int IntKind.u8))]], stgs := [⟨(R.pair (R.int IntKind.u16) (R.int IntKind.u8)), 145, false⟩] }
def rPutNL0T (a : Bool × List (Int × Int) × Int × Int × (Int × Int) × List (Int × Int) × PUnit) : RT (Option (Go1 (Bool × List (Int × Int) × Int × Int × (Int × Int) × List (Int × Int) × PUnit))) :=
  let x1 : Int × Int := R.get (R.pair (R.int IntKind.u16) (R.int IntKind.u8)) a.2.1 a.2.2.2.1
  let x2 : Int := x1.1
  let x3 : Bool := !a.1 && decide (x2 ≥ a.2.2.2.2.1.1)
  let x4 : List (Int × Int) := a.2.2.2.2.2.1 ++ [a.2.2.2.2.1]
  let x5 : Bool := !x3 || (!a.2.2.2.2.1.2 != 0 || Nat.ble (List.length x4) most)
  let x6 : Bool := x2 != a.2.2.2.2.1.1
  let x7 : List (Int × Int) := bif x3 then bif a.2.2.2.2.1.2 != 0 then x4 else a.2.2.2.2.2.1 else a.2.2.2.2.2.1
  let x8 : List (Int × Int) := x7 ++ [x1]
  .br (decide (a.2.2.2.1 < a.2.2.1))
  (.br (!inRng a.2.2.2.1 (List.length a.2.1) || (!x5 || (!x6 || Nat.ble (List.length x8) most)))
   (.br (!inRng a.2.2.2.1 (List.length a.2.1) || x5)
    (.br (inRng a.2.2.2.1 (List.length a.2.1))
     (.leaf (some (Go1.cont (x3 || a.1, a.2.1, a.2.2.1, IntKind.i64.wrap (a.2.2.2.1 + 1), a.2.2.2.2.1, bif x6 then x8 else x7, PUnit.unit))))
     (.leaf none))
    (.leaf none))
   (.leaf none))
  (.leaf (some (Go1.brk (a.1, a.2.1, a.2.2.1, a.2.2.2.1, a.2.2.2.2.1, a.2.2.2.2.2.1, PUnit.unit))))
def rPutNL0O : Ora := loopE false rPutNL0c rPutNL0T (fun a => 1000000000000)
theorem rPutNL0_ok : OraOk (envX Tryz.prog [] [] 511 8) (.block 0 (.loop (bodyIn Tryz.f118.body 0))) rPutNL0O :=
  loop_part (envX_ok (l := []) trivial [] 511 8) (loopsOk_bare (by kernel_rfl)) (fun a => by kernel_rfl)
def rPutNT (m : List (Int × Int)) (c : Int × Int) : RT (Option (List (Int × Int))) :=
  let x1 : Bool × List (Int × Int) × Int × Int × (Int × Int) × List (Int × Int) × PUnit := (false, m, iN (List.length m), 0, c, [], ())
  let x2 : Option (Bool × Bool × List (Int × Int) × Int × Int × (Int × Int) × List (Int × Int) × PUnit) := runF false rPutNL0T (fun a => 1000000000000) x1
  let x3 : Bool × List (Int × Int) × Int × Int × (Int × Int) × List (Int × Int) × PUnit := (getO (false, x1) x2).2
  let x4 : (Int × Int) × List (Int × Int) × PUnit := x3.2.2.2.2
  let x5 : Int × Int := x4.1
  let x6 : Bool := !x3.1 && x5.2 != 0
  let x7 : List (Int × Int) := x4.2.1
  let x8 : List (Int × Int) := x7 ++ [x5]
  .br (okB x2)
  (.br (!x6 || Nat.ble (List.length x8) most)
   (.leaf (some (bif x6 then x8 else x7)))
   (.leaf none))
  (.leaf none)
def rPutN (m : List (Int × Int)) (c : Int × Int) : List (Int × Int) := getO [] (rPutNT m c).val
def rPutNC (m : List (Int × Int)) (c : Int × Int) : Bool := okB (rPutNT m c).val
def rPutNE : Entry := frzE (newE rPutNRe rPutNEl rPutNTs (fun a => some (rPutNC a.1 a.2)) (fun a => rPutN a.1 a.2))
theorem rPutN0_ok : EntryOk Tryz.prog 118 (newE rPutNRe rPutNEl rPutNTs (fun a => some (rPutNC a.1 a.2)) (fun a => rPutN a.1 a.2)) :=
  new_part (P := Tryz.prog) (n := 511) (k := 8) (l := []) (ol := [(0, rPutNL0O)]) trivial Tryz.func118 rfl (by kernel_rfl) Tryz.call118 ⟨rPutNL0_ok, trivial⟩ (r := rPutNRe) (T := rPutNEl) (ts := rPutNTs) (t := fun a => rPutNT a.1 a.2) (fun a => by kernel_rfl)
theorem rPutN_ok : EntryOk Tryz.prog 118 rPutNE := frz_ok rPutN0_ok
abbrev rNormNRe : R := R.pair (R.int IntKind.u16) (R.int IntKind.u8)
abbrev rNormNEl : Nat := 145
abbrev rNormNTs : List Sh := [Sh.one rcCE]
def rNormNL0c : LS := { n := 21, slots := [(3, .tip 0), (10, .code (Sh.one rcCE)), (11, .code (Sh.one (R.int IntKind.i64))), (12, .code (Sh.one (R.int IntKind.i64)))], boxes := [], stgs := [⟨(R.pair (R.int IntKind.u16) (R.int IntKind.u8)), 145, false⟩] }
def rNormNL0T (a : List (Int × Int) × Int × Int × List (Int × Int) × PUnit) : RT (Option (Go1 (List (Int × Int) × Int × Int × List (Int × Int) × PUnit))) :=
  .br (decide (a.2.2.1 < a.2.1))
  (.br (!inRng a.2.2.1 (List.length a.1) || rPutNC a.2.2.2.1 (R.get (R.pair (R.int IntKind.u16) (R.int IntKind.u8)) a.1 a.2.2.1))
   (.br (inRng a.2.2.1 (List.length a.1))
    (.leaf (some (Go1.cont (a.1, a.2.1, IntKind.i64.wrap (a.2.2.1 + 1), Stg.l (newG rPutNRe rPutNEl (rPutN a.2.2.2.1 (R.get (R.pair (R.int IntKind.u16) (R.int IntKind.u8)) a.1 a.2.2.1))), PUnit.unit))))
    (.leaf none))
   (.leaf none))
  (.leaf (some (Go1.brk (a.1, a.2.1, a.2.2.1, a.2.2.2.1, PUnit.unit))))
def rNormNL0O : Ora := loopE false rNormNL0c rNormNL0T (fun a => 1000000000000)
theorem rNormNL0_ok : OraOk (envX Tryz.prog [(36, rValid1E), (118, rPutNE)] [] 63 8) (.block 0 (.loop (bodyIn Tryz.f68.body 0))) rNormNL0O :=
  loop_part (envX_ok (l := [(36, rValid1E), (118, rPutNE)]) ⟨rValid1_ok, rPutN_ok, trivial⟩ [] 63 8) (loopsOk_bare (by kernel_rfl)) (fun a => by kernel_rfl)
def rNormNT (l : List (Int × Int)) : RT (Option (List (Int × Int))) :=
  let x1 : Option (Bool × List (Int × Int) × Int × Int × List (Int × Int) × PUnit) := runF false rNormNL0T (fun a => 1000000000000) (l, iN (List.length l), 0, [], ())
  .br (smC l)
  (.br (!vldB l || Nat.ble (List.length ([] ++ l)) most)
   (.br (vldB l)
    (.leaf (some ([] ++ l)))
    (.br (okB x1)
     (.leaf (some (getO (false, l, iN (List.length l), 0, [], ()) x1).2.2.2.2.1))
     (.leaf none)))
   (.leaf none))
  (.leaf none)
def rNormN (l : List (Int × Int)) : List (Int × Int) := getO [] (rNormNT l).val
def rNormNC (l : List (Int × Int)) : Bool := okB (rNormNT l).val
def rNormNE : Entry := frzE (newE rNormNRe rNormNEl rNormNTs (fun a => some (rNormNC a)) (fun a => rNormN a))
theorem rNormN0_ok : EntryOk Tryz.prog 68 (newE rNormNRe rNormNEl rNormNTs (fun a => some (rNormNC a)) (fun a => rNormN a)) :=
  new_part (P := Tryz.prog) (n := 63) (k := 8) (l := [(36, rValid1E), (118, rPutNE)]) (ol := [(0, rNormNL0O)]) ⟨rValid1_ok, rPutN_ok, trivial⟩ Tryz.func68 rfl (by kernel_rfl) Tryz.call68 ⟨rNormNL0_ok, trivial⟩ (r := rNormNRe) (T := rNormNEl) (ts := rNormNTs) (t := fun a => rNormNT a) (fun a => by kernel_rfl)
theorem rNormN_ok : EntryOk Tryz.prog 68 rNormNE := frz_ok rNormN0_ok
abbrev rLoadNRe : R := R.pair (R.int IntKind.u16) (R.int IntKind.u8)
abbrev rLoadNEl : Nat := 145
abbrev rLoadNTs : List Sh := [Sh.one (R.int IntKind.u16), Sh.one (R.sl (R.int IntKind.u8))]
def rLoadNL0c : LS := { n := 27, slots := [(0, .code (Sh.one (R.int IntKind.u16))), (1, .code (Sh.one (R.sl (R.int IntKind.u8)))), (5, .tip 0), (8, .code (Sh.one (R.int IntKind.i64))), (9, .code (Sh.one (R.int IntKind.i64)))], boxes := [], stgs := [⟨(R.pair (R.int IntKind.u16) (R.int IntKind.u8)), 145, true⟩] }
def rLoadNL0T (a : Int × List Int × Int × Int × List (Int × Int) × PUnit) : RT (Option (Go1 (Int × List Int × Int × Int × List (Int × Int) × PUnit))) :=
  let x1 : List (Int × Int) := a.2.2.2.2.1 ++ [(IntKind.u16.wrap (a.1 + IntKind.u16.wrap a.2.2.2.1), R.get (R.int IntKind.u8) a.2.1 a.2.2.2.1)]
  let x2 : Bool := !inRng a.2.2.2.1 (List.length a.2.1) || Nat.ble (List.length x1) most
  .br (decide (a.2.2.2.1 < a.2.2.1))
  (.br (!x2 || inRng a.2.2.2.1 (List.length a.2.1))
   (.br (x2)
    (.leaf (some (Go1.cont (a.1, a.2.1, a.2.2.1, IntKind.i64.wrap (a.2.2.2.1 + 1), x1, PUnit.unit))))
    (.leaf none))
   (.leaf none))
  (.leaf (some (Go1.brk (a.1, a.2.1, a.2.2.1, a.2.2.2.1, a.2.2.2.2.1, PUnit.unit))))
def rLoadNL0O : Ora := loopE false rLoadNL0c rLoadNL0T (fun a => 1000000000000)
theorem rLoadNL0_ok : OraOk (envX Tryz.prog [(68, rNormNE)] [] 127 8) (.block 0 (.loop (bodyIn Tryz.f27.body 0))) rLoadNL0O :=
  loop_part (envX_ok (l := [(68, rNormNE)]) ⟨rNormN_ok, trivial⟩ [] 127 8) (loopsOk_bare (by kernel_rfl)) (fun a => by kernel_rfl)
def rLoadNT (t : Int) (b : List Int) : RT (Option (List (Int × Int))) :=
  let x1 : Option (Bool × Int × List Int × Int × Int × List (Int × Int) × PUnit) := runF false rLoadNL0T (fun a => 1000000000000) (t, b, iN (List.length b), 0, [], ())
  let x2 : List (Int × Int) := (getO (false, t, b, iN (List.length b), 0, [], ()) x1).2.2.2.2.2.1
  .br (okB x1)
  (.br (rNormNC x2)
   (.leaf (some (Stg.l (newG rNormNRe rNormNEl (rNormN x2)))))
   (.leaf none))
  (.leaf none)
def rLoadN (t : Int) (b : List Int) : List (Int × Int) := getO [] (rLoadNT t b).val
def rLoadNC (t : Int) (b : List Int) : Bool := okB (rLoadNT t b).val
theorem rLoadN0_ok : EntryOk Tryz.prog 27 (newE rLoadNRe rLoadNEl rLoadNTs (fun a => some (rLoadNC a.1 a.2)) (fun a => rLoadN a.1 a.2)) :=
  new_part (P := Tryz.prog) (n := 127) (k := 8) (l := [(68, rNormNE)]) (ol := [(0, rLoadNL0O)]) ⟨rNormN_ok, trivial⟩ Tryz.func27 rfl (by kernel_rfl) Tryz.call27 ⟨rLoadNL0_ok, trivial⟩ (r := rLoadNRe) (T := rLoadNEl) (ts := rLoadNTs) (t := fun a => rLoadNT a.1 a.2) (fun a => by kernel_rfl)
end
end Go.Proofs.YtpkijkmagnhciaaGreat
open Go Go.S3 Go.Proofs Go.Proofs.Cells
set_option linter.unusedVariables false
set_option linter.unusedSimpArgs false
set_option maxRecDepth 100000
namespace Go.Proofs.YtpkijkmagnhciaaGreat
noncomputable section
theorem rputN_run (m : List Cell) (c : Cell) (hv : Vld m) (hm : m.length + 1 ≤ most) : rPutNC m c = true ∧ rPutN m c = putX m c := by
  have h := rput0_run m c hv hm
  have e : rPutNT m c = rPut0T m c := rfl
  simp only [rPut0C, rPut0, ← e] at h
  exact h
theorem rnormN_run (l : List Cell) (hl : l.length + 1 ≤ most) : rNormNC l = true ∧ rNormN l = normX l := by
  have hms := mst
  have hs : smC l = true := (sm_iff.2 hl : sm l = true)
  have hv : (rNormNT l).val = some (normX l) := by
    cases hb : vldB l with
    | true =>
      have e : Nat.ble l.length most = true := by rw [Nat.ble_eq]; omega
      simp only [rNormNT, RT.val, hs, hb, List.nil_append, e, cond_true, Bool.not_true, Bool.false_or, normX_same (vldB_iff.1 hb)]
    | false =>
      obtain ⟨r, hr, h1, i, hR⟩ := runF_ind (fl := false) (t := rNormNL0T) (fuel := fun a => 1000000000000)
        (fun a => ∃ i : Nat, i ≤ l.length ∧ a = (l, (l.length : Int), (i : Int), normX (l.take i), ()))
        (fun a => Int.toNat (a.2.1 - a.2.2.1)) (fun r => r.1 = false ∧ ∃ i : Nat, r.2 = (l, (l.length : Int), (i : Int), normX l, ()))
        (by
          rintro a ⟨i, hi, rfl⟩
          by_cases hlt : i < l.length
          · left
            have d : decide ((i : Int) < (l.length : Int)) = true := by simpa using hlt
            have r1 := rng_nat l i hlt
            have hlen := normX_len (l.take i)
            rw [List.length_take] at hlen
            have hp := rputN_run (normX (l.take i)) (el l i) (normX_vld _) (by omega)
            refine ⟨_, ?_, ⟨i + 1, hlt, rfl⟩, by simp only; omega⟩
            rw [take_el l i hlt, normX_snoc]
            simp only [rNormNL0T, RT.val, d, r1, get_el, hp.1, hp.2, cond_true, Bool.or_true, wadd1 i (by omega)]
          · right; left
            have d : decide ((i : Int) < (l.length : Int)) = false := by simpa using hlt
            have e : l.take i = l := List.take_of_length_le (by omega)
            rw [e]
            exact ⟨_, by simp only [rNormNL0T, RT.val, d, cond_false], rfl, i, rfl⟩)
        (l, iN l.length, 0, [], ()) ⟨0, Nat.zero_le _, rfl⟩ (by simp only [iN]; omega)
      obtain ⟨r1, r2⟩ := r
      simp only at h1 hR
      subst h1 hR
      simp only [rNormNT, RT.val, hs, hb, hr, okB, getO, cond_true, cond_false, Bool.not_false, Bool.true_or]
  exact ⟨by simp only [rNormNC, hv]; rfl, by simp only [rNormN, hv, getO]⟩
theorem rloadN_run (t : Int) (b : List Int) (hb : b.length + 1 ≤ most) : rLoadNC t b = true ∧ rLoadN t b = loadX t b := by
  have hms := mst
  obtain ⟨r, hr, h1, hR⟩ := runF_ind (fl := false) (t := rLoadNL0T) (fuel := fun a => 1000000000000)
    (fun a => ∃ i : Nat, i ≤ b.length ∧ a = (t, b, (b.length : Int), (i : Int), loadL t b i, ()))
    (fun a => Int.toNat (a.2.2.1 - a.2.2.2.1)) (fun r => r.1 = false ∧ r.2 = (t, b, (b.length : Int), (b.length : Int), loadL t b b.length, ()))
    (by
      rintro a ⟨i, hi, rfl⟩
      by_cases hlt : i < b.length
      · left
        have d : decide ((i : Int) < (b.length : Int)) = true := by simpa using hlt
        have r1 := rng_nat b i hlt
        have hl : ∀ x : Cell, Nat.ble (loadL t b i ++ [x]).length most = true := fun x => by rw [Nat.ble_eq, List.length_append, loadL_len]; simp only [List.length_singleton]; omega
        refine ⟨_, ?_, ⟨i + 1, hlt, rfl⟩, by simp only; omega⟩
        rw [loadL_succ]
        have g := get_d b i
        simp only [rLoadNL0T, RT.val, d, r1, g, hl, cond_true, Bool.not_true, Bool.false_or, wadd1 i (by omega)]
      · right; left
        have d : decide ((i : Int) < (b.length : Int)) = false := by simpa using hlt
        have e : i = b.length := by omega
        subst e
        exact ⟨_, by simp only [rLoadNL0T, RT.val, d, cond_false], rfl, rfl⟩)
    (t, b, iN b.length, 0, [], ()) ⟨0, Nat.zero_le _, rfl⟩ (by simp only [iN]; omega)
  obtain ⟨r1, r2⟩ := r
  simp only at h1 hR
  subst h1 hR
  have hn := rnormN_run (loadL t b b.length) (by rw [loadL_len]; exact hb)
  have hv : (rLoadNT t b).val = some (loadX t b) := by
    simp only [rLoadNT, RT.val, hr, okB, getO, cond_true, hn.1, hn.2, loadX]
  exact ⟨by simp only [rLoadNC, hv]; rfl, by simp only [rLoadN, hv, getO]⟩
def rLoadN1E : Entry := frzE (newE rLoadNRe rLoadNEl rLoadNTs (fun a => some (smB a.2)) (fun a => loadX a.1 a.2))
theorem rLoadN1_ok : EntryOk Tryz.prog 27 rLoadN1E := frz_ok (newE_congr rLoadN0_ok fun a _ h => by
  have hb : smB a.2 = true := by cases hq : smB a.2 with
    | true => rfl
    | false => rw [hq] at h; exact absurd rfl h
  obtain ⟨h1, h2⟩ := rloadN_run a.1 a.2 (sm_iff.1 hb)
  exact ⟨by rw [h1]; simp, h2⟩)
end
end Go.Proofs.YtpkijkmagnhciaaGreat
set_option linter.unusedSimpArgs false
open Go Go.S3 Go.Proofs
set_option linter.unusedVariables false
set_option maxRecDepth 100000
namespace Go.Proofs.YtpkijkmagnhciaaGreat
noncomputable section
abbrev nFlagRb : R := R.pair (R.sl (R.int IntKind.i64)) (R.int IntKind.i64)
abbrev nFlagTs : List Sh := []
abbrev nFlagRs : Rs := Rs.one (Sh.one R.bool)
def nFlagT (s : List Int × Int) : RT (Option (Bool × List Int × Int)) :=
  .br (nNextC s 2)
  (.leaf (some (((nNext s 2).1 == 1, (nNext s 2).2))))
  (.leaf none)
def nFlag (s : List Int × Int) : Bool × List Int × Int := getO (nFlagRs.dflt, nFlagRb.dflt) (nFlagT s).val
def nFlagC (s : List Int × Int) : Bool := okB (nFlagT s).val
def nFlagE : Entry := boxE nFlagRb nFlagTs nFlagRs (fun a => some (nFlagC a.1 )) (fun a => nFlag a.1 )
theorem nFlag_ok : EntryOk Tryz.prog 43 nFlagE :=
  box_part (P := Tryz.prog) (n := 7) (k := 8) (l := [(44, nNextE)]) (ol := []) ⟨nNext_ok, trivial⟩ Tryz.func43 rfl (by kernel_rfl) Tryz.call43 trivial (rb := nFlagRb) (ts := nFlagTs) (rs := nFlagRs) (t := fun a => nFlagT a.1 ) (fun a => by kernel_rfl)
abbrev nCPURb : R := R.pair (R.sl (R.int IntKind.i64)) (R.int IntKind.i64)
abbrev nCPUTs : List Sh := []
abbrev nCPURs : Rs := Rs.one (Sh.agg rcCPU)
def nCPUT (s : List Int × Int) : RT (Option (TC × List Int × Int)) :=
  let x1 : Int × List Int × Int := nNext (nNext (nFlag (nRegs (nChip s).2 (nChip s).1).2).2 5).2 8
  let x2 : List Int × Int := x1.2
  let x3 : Bool := nNextC x2 5
  let x4 : Bool := !x3
  let x5 : Int × List Int × Int := nNext x2 5
  let x6 : List Int × Int := x5.2
  let x7 : Bool := nFlagC x6
  let x8 : Bool := !x7
  let x9 : Bool × List Int × Int := nFlag x6
  let x10 : List Int × Int := x9.2
  let x11 : Bool := nFlagC x10
  let x12 : Bool × List Int × Int := nFlag x10
  let x13 : List Int × Int := x12.2
  let x14 : Bool × List Int × Int := nFlag x13
  let x15 : List Int × Int := x14.2
  let x16 : Bool := nNextC x15 4
  let x17 : Bool := !x16
  let x18 : Int × List Int × Int := nNext x15 4
  let x19 : List Int × Int := x18.2
  let x20 : Bool := nFlagC x19
  let x21 : Bool × List Int × Int := nFlag x19
  let x22 : List Int × Int := x21.2
  let x23 : Bool × List Int × Int := nFlag x22
  let x24 : List Int × Int := x23.2
  .br (nChipC s)
  (.br (!nRegsC (nChip s).2 (nChip s).1 || nFlagC (nRegs (nChip s).2 (nChip s).1).2)
   (.br (nRegsC (nChip s).2 (nChip s).1)
    (.br (nNextC (nFlag (nRegs (nChip s).2 (nChip s).1).2).2 5)
     (.br (!(nChip s).1 == 2 || nNextC (nNext (nFlag (nRegs (nChip s).2 (nChip s).1).2).2 5).2 8)
      (.br (!(nChip s).1 == 2 || (x4 || (x8 || (!x11 || nFlagC x13))))
       (.br (!(nChip s).1 == 2 || (x4 || (x8 || x11)))
        (.br (!(nChip s).1 == 2 || (x4 || x7))
         (.br (!(nChip s).1 == 2 || x3)
          (.br (!(nChip s).1 == 2 || (x17 || (!x20 || nFlagC x22)))
           (.br (!(nChip s).1 == 2 || (x17 || x20))
            (.br (!(nChip s).1 == 2 || x16)
             (.leaf (some ((((nChip s).1, (nRegs (nChip s).2 (nChip s).1).1, (nFlag (nRegs (nChip s).2 (nChip s).1).2).1, (nNext (nFlag (nRegs (nChip s).2 (nChip s).1).2).2 5).1 == 0, false, bif (nChip s).1 == 2 then IntKind.u8.wrap x1.1 else 0, (nChip s).1 == 2 && x5.1 == 0, (nChip s).1 == 2 && x9.1, (nChip s).1 == 2 && x12.1, (nChip s).1 == 2 && x14.1, (nChip s).1 == 2 && x18.1 == 0, (nChip s).1 == 2 && x21.1, (nChip s).1 == 2 && x23.1), bif (nChip s).1 == 2 then x24.1 else (nNext (nFlag (nRegs (nChip s).2 (nChip s).1).2).2 5).2.1, bif (nChip s).1 == 2 then x24.2 else (nNext (nFlag (nRegs (nChip s).2 (nChip s).1).2).2 5).2.2))))
             (.leaf none))
            (.leaf none))
           (.leaf none))
          (.leaf none))
         (.leaf none))
        (.leaf none))
       (.leaf none))
      (.leaf none))
     (.leaf none))
    (.leaf none))
   (.leaf none))
  (.leaf none)
def nCPU (s : List Int × Int) : TC × List Int × Int := getO (nCPURs.dflt, nCPURb.dflt) (nCPUT s).val
def nCPUC (s : List Int × Int) : Bool := okB (nCPUT s).val
def nCPUE : Entry := boxE nCPURb nCPUTs nCPURs (fun a => some (nCPUC a.1 )) (fun a => nCPU a.1 )
theorem nCPU_ok : EntryOk Tryz.prog 14 nCPUE :=
  box_part (P := Tryz.prog) (n := 31) (k := 8) (l := [(30, nChipE), (42, nRegsE), (43, nFlagE), (44, nNextE)]) (ol := []) ⟨nChip_ok, nRegs_ok, nFlag_ok, nNext_ok, trivial⟩ Tryz.func14 rfl (by kernel_rfl) Tryz.call14 trivial (rb := nCPURb) (ts := nCPUTs) (rs := nCPURs) (t := fun a => nCPUT a.1 ) (fun a => by kernel_rfl)
abbrev nCellsRb : R := R.pair (R.sl (R.int IntKind.i64)) (R.int IntKind.i64)
abbrev nCellsTs : List Sh := [Sh.one (R.int IntKind.i64)]
abbrev nCellsRs : Rs := Rs.one (Sh.one rcCE)
def nCellsL0c : LS := { n := 24, slots := [(0, .fix (A.loc 0 0)), (5, .tip 0), (6, .code (Sh.one (R.int IntKind.i64)))], boxes := [[.many (R.pair (R.sl (R.int IntKind.i64)) (R.int IntKind.i64))]], stgs := [⟨(R.pair (R.int IntKind.u16) (R.int IntKind.u8)), 145, true⟩] }
def nCellsL0T (a : Int × (List Int × Int) × List (Int × Int) × PUnit) : RT (Option (Go1 (Int × (List Int × Int) × List (Int × Int) × PUnit))) :=
  let x1 : List (Int × Int) := a.2.2.1 ++ [((nWord a.2.1).1, (nByte (nWord a.2.1).2).1)]
  let x2 : Bool := !nWordC a.2.1 || (!nByteC (nWord a.2.1).2 || Nat.ble (List.length x1) most)
  let x3 : Bool := !x2
  .br (decide (a.1 > 0))
  (.br (x3 || (!(!nWordC a.2.1 || nByteC (nWord a.2.1).2) || nWordC a.2.1))
   (.br (x3 || (!nWordC a.2.1 || nByteC (nWord a.2.1).2))
    (.br (x2)
     (.leaf (some (Go1.cont (IntKind.i64.wrap (a.1 - 1), (nByte (nWord a.2.1).2).2, x1, PUnit.unit))))
     (.leaf none))
    (.leaf none))
   (.leaf none))
  (.leaf (some (Go1.brk (a.1, a.2.1, a.2.2.1, PUnit.unit))))
def nCellsL0O : Ora := loopE false nCellsL0c nCellsL0T (fun a => 400)
theorem nCellsL0_ok : OraOk (envX Tryz.prog [(44, nNextE), (86, nByteE), (92, nWordE)] [] 127 8) (.block 0 (.loop (bodyIn Tryz.f65.body 0))) nCellsL0O :=
  loop_part (envX_ok (l := [(44, nNextE), (86, nByteE), (92, nWordE)]) ⟨nNext_ok, nByte_ok, nWord_ok, trivial⟩ [] 127 8) (loopsOk_bare (by kernel_rfl)) (fun a => by kernel_rfl)
def nCellsT (s : List Int × Int) (n : Int) : RT (Option (List (Int × Int) × List Int × Int)) :=
  let x1 : Int × (List Int × Int) × List (Int × Int) × PUnit := ((nNext s (IntKind.i64.wrap (n + 1))).1, (nNext s (IntKind.i64.wrap (n + 1))).2, [], ())
  let x2 : Option (Bool × Int × (List Int × Int) × List (Int × Int) × PUnit) := runF false nCellsL0T (fun a => 400) x1
  let x3 : (List Int × Int) × List (Int × Int) × PUnit := (getO (false, x1) x2).2.2
  .br (nNextC s (IntKind.i64.wrap (n + 1)))
  (.br (okB x2)
   (.leaf (some ((x3.2.1, x3.1))))
   (.leaf none))
  (.leaf none)
def nCells (s : List Int × Int) (n : Int) : List (Int × Int) × List Int × Int := getO (nCellsRs.dflt, nCellsRb.dflt) (nCellsT s n).val
def nCellsC (s : List Int × Int) (n : Int) : Bool := okB (nCellsT s n).val
def nCellsE : Entry := boxE nCellsRb nCellsTs nCellsRs (fun a => some (nCellsC a.1 a.2)) (fun a => nCells a.1 a.2)
theorem nCells_ok : EntryOk Tryz.prog 65 nCellsE :=
  box_part (P := Tryz.prog) (n := 127) (k := 8) (l := [(44, nNextE), (86, nByteE), (92, nWordE)]) (ol := [(0, nCellsL0O)]) ⟨nNext_ok, nByte_ok, nWord_ok, trivial⟩ Tryz.func65 rfl (by kernel_rfl) Tryz.call65 ⟨nCellsL0_ok, trivial⟩ (rb := nCellsRb) (ts := nCellsTs) (rs := nCellsRs) (t := fun a => nCellsT a.1 a.2) (fun a => by kernel_rfl)
abbrev nRegionsRe : R := R.pair (R.int IntKind.u16) (R.pair (R.int IntKind.u16) (R.pair R.bool (R.int IntKind.i64)))
abbrev nRegionsEl : Nat := 84
abbrev nRegionsRb : R := R.pair (R.sl (R.int IntKind.i64)) (R.int IntKind.i64)
abbrev nRegionsTs : List Sh := [Sh.one (R.int IntKind.i64)]
def nRegionsL0c : LS := { n := 44, slots := [(0, .fix (A.loc 0 0)), (5, .tip 0), (6, .code (Sh.one (R.int IntKind.i64)))], boxes := [[.many (R.pair (R.sl (R.int IntKind.i64)) (R.int IntKind.i64))]], stgs := [⟨(R.pair (R.int IntKind.u16) (R.pair (R.int IntKind.u16) (R.pair R.bool (R.int IntKind.i64)))), 84, false⟩] }
def nRegionsL0T (a : Int × (List Int × Int) × List (Int × Int × Bool × Int) × PUnit) : RT (Option (Go1 (Int × (List Int × Int) × List (Int × Int × Bool × Int) × PUnit))) :=
  let x1 : Bool := !nNextC (nWord a.2.1).2 6 || inRng (nNext (nWord a.2.1).2 6).1 (List.length [0, 3, 15, 255, 4095, 65535])
  let x2 : Bool := !x1
  let x3 : Bool := !nNextC (nNext (nNext (nWord a.2.1).2 6).2 3).2 5
  let x4 : Int := (nNext (nNext (nNext (nWord a.2.1).2 6).2 3).2 5).1
  let x5 : Bool := inRng x4 (List.length [0, 0, 1, 2, 5])
  let x6 : Int := IntKind.i64.wrap (IntKind.i64.wrap (nWord a.2.1).1 + R.get (R.int IntKind.i64) [0, 3, 15, 255, 4095, 65535] (nNext (nWord a.2.1).2 6).1)
  let x7 : List (Int × Int × Bool × Int) := a.2.2.1 ++ [((nWord a.2.1).1, IntKind.u16.wrap (if 65535 < x6 then 65535 else x6), decide ((nNext (nNext (nWord a.2.1).2 6).2 3).1 > 0), R.get (R.int IntKind.i64) [0, 0, 1, 2, 5] x4)]
  let x8 : Bool := !nNextC (nNext (nWord a.2.1).2 6).2 3 || (x3 || (!x5 || Nat.ble (List.length x7) most))
  let x9 : Bool := !x8
  let x10 : Bool := !nNextC (nNext (nWord a.2.1).2 6).2 3 || (x3 || x5)
  let x11 : Bool := !x10
  let x12 : Bool := !nNextC (nNext (nWord a.2.1).2 6).2 3 || nNextC (nNext (nNext (nWord a.2.1).2 6).2 3).2 5
  .br (decide (a.1 > 0))
  (.br (!nWordC a.2.1 || (x2 || (!nNextC (nWord a.2.1).2 6 || (x9 || (x11 || (!x12 || nNextC (nNext (nWord a.2.1).2 6).2 3))))))
   (.br (!nWordC a.2.1 || (x2 || (!nNextC (nWord a.2.1).2 6 || (x9 || (x11 || x12)))))
    (.br (!nWordC a.2.1 || (x2 || (!nNextC (nWord a.2.1).2 6 || (x9 || x10))))
     (.br (!nWordC a.2.1 || (x2 || (!nNextC (nWord a.2.1).2 6 || x8)))
      (.br (!nWordC a.2.1 || (x2 || nNextC (nWord a.2.1).2 6))
       (.br (!nWordC a.2.1 || x1)
        (.br (nWordC a.2.1)
         (.leaf (some (Go1.cont (IntKind.i64.wrap (a.1 - 1), (nNext (nNext (nNext (nWord a.2.1).2 6).2 3).2 5).2, x7, PUnit.unit))))
         (.leaf none))
        (.leaf none))
       (.leaf none))
      (.leaf none))
     (.leaf none))
    (.leaf none))
   (.leaf none))
  (.leaf (some (Go1.brk (a.1, a.2.1, a.2.2.1, PUnit.unit))))
def nRegionsL0O : Ora := loopE false nRegionsL0c nRegionsL0T (fun a => 400)
theorem nRegionsL0_ok : OraOk (envX Tryz.prog [(44, nNextE), (92, nWordE)] [] 511 8) (.block 0 (.loop (bodyIn Tryz.f113.body 0))) nRegionsL0O :=
  loop_part (envX_ok (l := [(44, nNextE), (92, nWordE)]) ⟨nNext_ok, nWord_ok, trivial⟩ [] 511 8) (loopsOk_bare (by kernel_rfl)) (fun a => by kernel_rfl)
def nRegionsT (s : List Int × Int) (n : Int) : RT (Option (List (Int × Int × Bool × Int) × List Int × Int)) :=
  let x1 : Int × (List Int × Int) × List (Int × Int × Bool × Int) × PUnit := ((nNext s (IntKind.i64.wrap (n + 1))).1, (nNext s (IntKind.i64.wrap (n + 1))).2, [], ())
  let x2 : Option (Bool × Int × (List Int × Int) × List (Int × Int × Bool × Int) × PUnit) := runF false nRegionsL0T (fun a => 400) x1
  let x3 : (List Int × Int) × List (Int × Int × Bool × Int) × PUnit := (getO (false, x1) x2).2.2
  .br (nNextC s (IntKind.i64.wrap (n + 1)))
  (.br (okB x2)
   (.leaf (some ((x3.2.1, x3.1))))
   (.leaf none))
  (.leaf none)
def nRegions (s : List Int × Int) (n : Int) : List (Int × Int × Bool × Int) × List Int × Int := getO ([], nRegionsRb.dflt) (nRegionsT s n).val
def nRegionsC (s : List Int × Int) (n : Int) : Bool := okB (nRegionsT s n).val
def nRegionsE : Entry := frzE (newBE nRegionsRb nRegionsRe nRegionsEl nRegionsTs (fun a => some (nRegionsC a.1 a.2)) (fun a => nRegions a.1 a.2))
theorem nRegions0_ok : EntryOk Tryz.prog 113 (newBE nRegionsRb nRegionsRe nRegionsEl nRegionsTs (fun a => some (nRegionsC a.1 a.2)) (fun a => nRegions a.1 a.2)) :=
  newb_part (P := Tryz.prog) (n := 511) (k := 8) (l := [(44, nNextE), (92, nWordE)]) (ol := [(0, nRegionsL0O)]) ⟨nNext_ok, nWord_ok, trivial⟩ Tryz.func113 rfl (by kernel_rfl) Tryz.call113 ⟨nRegionsL0_ok, trivial⟩ (rb := nRegionsRb) (r := nRegionsRe) (T := nRegionsEl) (ts := nRegionsTs) (t := fun a => nRegionsT a.1 a.2) (fun a => by kernel_rfl)
theorem nRegions_ok : EntryOk Tryz.prog 113 nRegionsE := frz_ok nRegions0_ok
abbrev nMapRb : R := R.pair (R.sl (R.int IntKind.i64)) (R.int IntKind.i64)
abbrev nMapTs : List Sh := []
abbrev nMapRs : Rs := Rs.one (Sh.one rcRG)
def nMapT (s : List Int × Int) : RT (Option (List (Int × Int × Bool × Int) × List Int × Int)) :=
  let x1 : List (Int × Int × Bool × Int) := Stg.l (newG nRegionsRe nRegionsEl (nRegions s 2).1) ++ [(0, 65535, true, IntKind.i64.wrap (Int.tdiv (nNext (nRegions s 2).2 3).1 2))]
  .br (!nRegionsC s 2 || (!nNextC (nRegions s 2).2 3 || Nat.ble (List.length x1) most))
  (.br (!nRegionsC s 2 || nNextC (nRegions s 2).2 3)
   (.br (nRegionsC s 2)
    (.leaf (some ((x1, (nNext (nRegions s 2).2 3).2))))
    (.leaf none))
   (.leaf none))
  (.leaf none)
def nMap (s : List Int × Int) : List (Int × Int × Bool × Int) × List Int × Int := getO (nMapRs.dflt, nMapRb.dflt) (nMapT s).val
def nMapC (s : List Int × Int) : Bool := okB (nMapT s).val
def nMapE : Entry := boxE nMapRb nMapTs nMapRs (fun a => some (nMapC a.1 )) (fun a => nMap a.1 )
theorem nMap_ok : EntryOk Tryz.prog 63 nMapE :=
  box_part (P := Tryz.prog) (n := 7) (k := 8) (l := [(44, nNextE), (113, nRegionsE)]) (ol := []) ⟨nNext_ok, nRegions_ok, trivial⟩ Tryz.func63 rfl (by kernel_rfl) Tryz.call63 trivial (rb := nMapRb) (ts := nMapTs) (rs := nMapRs) (t := fun a => nMapT a.1 ) (fun a => by kernel_rfl)
abbrev nProgramRb : R := R.pair (R.sl (R.int IntKind.i64)) (R.int IntKind.i64)
abbrev nProgramTs : List Sh := [Sh.one (R.int IntKind.i64)]
abbrev nProgramRs : Rs := Rs.one (Sh.one (R.sl (R.int IntKind.u8)))
def nProgramL0c : LS := { n := 75, slots := [(0, .fix (A.loc 0 0)), (5, .tip 0), (6, .code (Sh.one (R.int IntKind.i64)))], boxes := [[.many (R.pair (R.sl (R.int IntKind.i64)) (R.int IntKind.i64))]], stgs := [⟨(R.int IntKind.u8), 5, true⟩] }
def nProgramL0T (a : Int × (List Int × Int) × List Int × PUnit) : RT (Option (Go1 (Int × (List Int × Int) × List Int × PUnit))) :=
  let x1 : Bool := inRng (nNext (nNext a.2.1 8).2 4).1 (List.length [33, 49, 1, 17])
  let x2 : Bool := !x1
  let x3 : Bool := nNextC (nNext (nNext (nNext a.2.1 8).2 4).2 256).2 4
  let x4 : Bool := !x3
  let x5 : Int × List Int × Int := nNext (nNext (nNext (nNext a.2.1 8).2 4).2 256).2 4
  let x6 : Int := x5.1
  let x7 : Bool := inRng x6 (List.length [0, 0, 1, 255])
  let x8 : List Int := a.2.2.1 ++ [R.get (R.int IntKind.u8) [33, 49, 1, 17] (nNext (nNext a.2.1 8).2 4).1, IntKind.u8.wrap (nNext (nNext (nNext a.2.1 8).2 4).2 256).1, R.get (R.int IntKind.u8) [0, 0, 1, 255] x6]
  let x9 : Bool := !(nNext a.2.1 8).1 == 0 || (!nNextC (nNext a.2.1 8).2 4 || (x2 || (!nNextC (nNext (nNext a.2.1 8).2 4).2 256 || (x4 || (!x7 || Nat.ble (List.length x8) most)))))
  let x10 : Bool := !x9
  let x11 : Bool := !(nNext a.2.1 8).1 == 0 || (!nNextC (nNext a.2.1 8).2 4 || (x2 || (!nNextC (nNext (nNext a.2.1 8).2 4).2 256 || (x4 || x7))))
  let x12 : Bool := !x11
  let x13 : Bool := !(nNext a.2.1 8).1 == 0 || (!nNextC (nNext a.2.1 8).2 4 || (x2 || (!nNextC (nNext (nNext a.2.1 8).2 4).2 256 || x3)))
  let x14 : Bool := !x13
  let x15 : Bool := !(nNext a.2.1 8).1 == 0 || (!nNextC (nNext a.2.1 8).2 4 || (x2 || nNextC (nNext (nNext a.2.1 8).2 4).2 256))
  let x16 : Bool := !x15
  let x17 : Bool := !(nNext a.2.1 8).1 == 0 || (!nNextC (nNext a.2.1 8).2 4 || x1)
  let x18 : Bool := !x17
  let x19 : Bool := !(nNext a.2.1 8).1 == 0 || nNextC (nNext a.2.1 8).2 4
  let x20 : Bool := !x19
  let x21 : List Int := a.2.2.1 ++ [62, (nByte (nNext a.2.1 8).2).1, 211, IntKind.u8.wrap (nNext (nByte (nNext a.2.1 8).2).2 8).1]
  let x22 : Bool := (nNext a.2.1 8).1 == 0 || (!(nNext a.2.1 8).1 == 1 || (!nByteC (nNext a.2.1 8).2 || (!nNextC (nByte (nNext a.2.1 8).2).2 8 || Nat.ble (List.length x21) most)))
  let x23 : Bool := !x22
  let x24 : Bool := (nNext a.2.1 8).1 == 0 || (!(nNext a.2.1 8).1 == 1 || (!nByteC (nNext a.2.1 8).2 || nNextC (nByte (nNext a.2.1 8).2).2 8))
  let x25 : Bool := !x24
  let x26 : Bool := (nNext a.2.1 8).1 == 0 || (!(nNext a.2.1 8).1 == 1 || nByteC (nNext a.2.1 8).2)
  let x27 : Bool := !x26
  let x28 : Bool := (nNext a.2.1 8).1 == 0 || ((nNext a.2.1 8).1 == 1 || (!(nNext a.2.1 8).1 == 2 || Nat.ble (List.length (a.2.2.1 ++ [251])) most))
  let x29 : Bool := !x28
  let x30 : List Int := a.2.2.1 ++ [62, IntKind.u8.wrap (IntKind.i64.wrap (16 + (nNext (nNext a.2.1 8).2 16).1)), 211, 0, 62, (nByte (nNext (nNext a.2.1 8).2 16).2).1, 211, 1, 62, 0, 211, 1]
  let x31 : Bool := (nNext a.2.1 8).1 == 0 || ((nNext a.2.1 8).1 == 1 || ((nNext a.2.1 8).1 == 2 || (!(nNext a.2.1 8).1 == 3 || (!nNextC (nNext a.2.1 8).2 16 || (!nByteC (nNext (nNext a.2.1 8).2 16).2 || Nat.ble (List.length x30) most)))))
  let x32 : Bool := !x31
  let x33 : Bool := (nNext a.2.1 8).1 == 0 || ((nNext a.2.1 8).1 == 1 || ((nNext a.2.1 8).1 == 2 || (!(nNext a.2.1 8).1 == 3 || (!nNextC (nNext a.2.1 8).2 16 || nByteC (nNext (nNext a.2.1 8).2 16).2))))
  let x34 : Bool := !x33
  let x35 : Bool := (nNext a.2.1 8).1 == 0 || ((nNext a.2.1 8).1 == 1 || ((nNext a.2.1 8).1 == 2 || (!(nNext a.2.1 8).1 == 3 || nNextC (nNext a.2.1 8).2 16)))
  let x36 : Bool := !x35
  let x37 : Bool := !nNextC (nNext (nOpcode (nNext a.2.1 8).2).2 64).2 4
  let x38 : Int := (nNext (nNext (nOpcode (nNext a.2.1 8).2).2 64).2 4).1
  let x39 : Bool := inRng x38 (List.length [0, 0, 1, 255])
  let x40 : List Int := a.2.2.1 ++ [(nOpcode (nNext a.2.1 8).2).1, IntKind.u8.wrap (nNext (nOpcode (nNext a.2.1 8).2).2 64).1, R.get (R.int IntKind.u8) [0, 0, 1, 255] x38]
  let x41 : Bool := (nNext a.2.1 8).1 == 0 || ((nNext a.2.1 8).1 == 1 || ((nNext a.2.1 8).1 == 2 || ((nNext a.2.1 8).1 == 3 || (!nOpcodeC (nNext a.2.1 8).2 || (!nNextC (nOpcode (nNext a.2.1 8).2).2 64 || (x37 || (!x39 || Nat.ble (List.length x40) most)))))))
  let x42 : Bool := !x41
  let x43 : Bool := (nNext a.2.1 8).1 == 0 || ((nNext a.2.1 8).1 == 1 || ((nNext a.2.1 8).1 == 2 || ((nNext a.2.1 8).1 == 3 || (!nOpcodeC (nNext a.2.1 8).2 || (!nNextC (nOpcode (nNext a.2.1 8).2).2 64 || (x37 || x39))))))
  let x44 : Bool := !x43
  let x45 : Bool := (nNext a.2.1 8).1 == 0 || ((nNext a.2.1 8).1 == 1 || ((nNext a.2.1 8).1 == 2 || ((nNext a.2.1 8).1 == 3 || (!nOpcodeC (nNext a.2.1 8).2 || (!nNextC (nOpcode (nNext a.2.1 8).2).2 64 || nNextC (nNext (nOpcode (nNext a.2.1 8).2).2 64).2 4)))))
  let x46 : Bool := !x45
  let x47 : Bool := (nNext a.2.1 8).1 == 0 || ((nNext a.2.1 8).1 == 1 || ((nNext a.2.1 8).1 == 2 || ((nNext a.2.1 8).1 == 3 || (!nOpcodeC (nNext a.2.1 8).2 || nNextC (nOpcode (nNext a.2.1 8).2).2 64))))
  let x48 : Bool := x10 || (x12 || (x14 || (x16 || (x18 || (x20 || (x23 || (x25 || (x27 || (x29 || (x32 || (x34 || (x36 || (x42 || (x44 || (x46 || (!x47 || ((nNext a.2.1 8).1 == 0 || ((nNext a.2.1 8).1 == 1 || ((nNext a.2.1 8).1 == 2 || ((nNext a.2.1 8).1 == 3 || nOpcodeC (nNext a.2.1 8).2))))))))))))))))))))
  let x49 : Bool := !x48
  let x50 : Bool := x10 || (x12 || (x14 || (x16 || (x18 || (x20 || (x23 || (x25 || (x27 || (x29 || (x32 || (x34 || (x36 || (x42 || (x44 || (x46 || x47)))))))))))))))
  let x51 : Bool := !x50
  let x52 : Bool := x10 || (x12 || (x14 || (x16 || (x18 || (x20 || (x23 || (x25 || (x27 || (x29 || (x32 || (x34 || (x36 || (x42 || (x44 || x45))))))))))))))
  let x53 : Bool := !x52
  let x54 : Bool := x10 || (x12 || (x14 || (x16 || (x18 || (x20 || (x23 || (x25 || (x27 || (x29 || (x32 || (x34 || (x36 || (x42 || x43)))))))))))))
  let x55 : Bool := !x54
  let x56 : Bool := x10 || (x12 || (x14 || (x16 || (x18 || (x20 || (x23 || (x25 || (x27 || (x29 || (x32 || (x34 || (x36 || x41))))))))))))
  let x57 : Bool := !x56
  let x58 : Bool := x10 || (x12 || (x14 || (x16 || (x18 || (x20 || (x23 || (x25 || (x27 || (x29 || (x32 || (x34 || x35)))))))))))
  let x59 : Bool := !x58
  let x60 : Bool := x10 || (x12 || (x14 || (x16 || (x18 || (x20 || (x23 || (x25 || (x27 || (x29 || (x32 || x33))))))))))
  let x61 : Bool := !x60
  let x62 : Bool := x10 || (x12 || (x14 || (x16 || (x18 || (x20 || (x23 || (x25 || (x27 || (x29 || x31)))))))))
  let x63 : Bool := !x62
  let x64 : Bool := x10 || (x12 || (x14 || (x16 || (x18 || (x20 || (x23 || (x25 || (x27 || x28))))))))
  let x65 : Bool := !x64
  let x66 : Bool := x10 || (x12 || (x14 || (x16 || (x18 || (x20 || (x23 || (x25 || x26)))))))
  let x67 : Bool := !x66
  let x68 : Bool := x10 || (x12 || (x14 || (x16 || (x18 || (x20 || (x23 || x24))))))
  let x69 : Bool := !x68
  let x70 : Bool := x10 || (x12 || (x14 || (x16 || (x18 || (x20 || x22)))))
  let x71 : Bool := !x70
  let x72 : Bool := x10 || (x12 || (x14 || (x16 || (x18 || x19))))
  let x73 : Bool := !x72
  let x74 : Bool := x10 || (x12 || (x14 || (x16 || x17)))
  let x75 : Bool := !x74
  let x76 : Bool := x10 || (x12 || (x14 || x15))
  let x77 : Bool := !x76
  let x78 : Bool := x10 || (x12 || x13)
  let x79 : Bool := !x78
  let x80 : Bool := x10 || x11
  let x81 : List Int × Int := (nNext (nNext (nOpcode (nNext a.2.1 8).2).2 64).2 4).2
  .br (decide (a.1 > 0))
  (.br (!nNextC a.2.1 8 || (x49 || (x51 || (x53 || (x55 || (x57 || (x59 || (x61 || (x63 || (x65 || (x67 || (x69 || (x71 || (x73 || (x75 || (x77 || (x79 || (!x80 || x9))))))))))))))))))
   (.br (!nNextC a.2.1 8 || (x49 || (x51 || (x53 || (x55 || (x57 || (x59 || (x61 || (x63 || (x65 || (x67 || (x69 || (x71 || (x73 || (x75 || (x77 || (x79 || x80)))))))))))))))))
    (.br (!nNextC a.2.1 8 || (x49 || (x51 || (x53 || (x55 || (x57 || (x59 || (x61 || (x63 || (x65 || (x67 || (x69 || (x71 || (x73 || (x75 || (x77 || x78))))))))))))))))
     (.br (!nNextC a.2.1 8 || (x49 || (x51 || (x53 || (x55 || (x57 || (x59 || (x61 || (x63 || (x65 || (x67 || (x69 || (x71 || (x73 || (x75 || x76)))))))))))))))
      (.br (!nNextC a.2.1 8 || (x49 || (x51 || (x53 || (x55 || (x57 || (x59 || (x61 || (x63 || (x65 || (x67 || (x69 || (x71 || (x73 || x74))))))))))))))
       (.br (!nNextC a.2.1 8 || (x49 || (x51 || (x53 || (x55 || (x57 || (x59 || (x61 || (x63 || (x65 || (x67 || (x69 || (x71 || x72)))))))))))))
        (.br (!nNextC a.2.1 8 || (x49 || (x51 || (x53 || (x55 || (x57 || (x59 || (x61 || (x63 || (x65 || (x67 || (x69 || x70))))))))))))
         (.br (!nNextC a.2.1 8 || (x49 || (x51 || (x53 || (x55 || (x57 || (x59 || (x61 || (x63 || (x65 || (x67 || x68)))))))))))
          (.br (!nNextC a.2.1 8 || (x49 || (x51 || (x53 || (x55 || (x57 || (x59 || (x61 || (x63 || (x65 || x66))))))))))
           (.br (!nNextC a.2.1 8 || (x49 || (x51 || (x53 || (x55 || (x57 || (x59 || (x61 || (x63 || x64)))))))))
            (.br (!nNextC a.2.1 8 || (x49 || (x51 || (x53 || (x55 || (x57 || (x59 || (x61 || x62))))))))
             (.br (!nNextC a.2.1 8 || (x49 || (x51 || (x53 || (x55 || (x57 || (x59 || x60)))))))
              (.br (!nNextC a.2.1 8 || (x49 || (x51 || (x53 || (x55 || (x57 || x58))))))
               (.br (!nNextC a.2.1 8 || (x49 || (x51 || (x53 || (x55 || x56)))))
                (.br (!nNextC a.2.1 8 || (x49 || (x51 || (x53 || x54))))
                 (.br (!nNextC a.2.1 8 || (x49 || (x51 || x52)))
                  (.br (!nNextC a.2.1 8 || (x49 || x50))
                   (.br (!nNextC a.2.1 8 || x48)
                    (.br (nNextC a.2.1 8)
                     (.br ((nNext a.2.1 8).1 == 0)
                      (.leaf (some (Go1.cont (IntKind.i64.wrap (a.1 - 1), x5.2, x8, PUnit.unit))))
                      (.br ((nNext a.2.1 8).1 == 1)
                       (.leaf (some (Go1.cont (IntKind.i64.wrap (a.1 - 1), (nNext (nByte (nNext a.2.1 8).2).2 8).2, x21, PUnit.unit))))
                       (.br ((nNext a.2.1 8).1 == 2)
                        (.leaf (some (Go1.cont (IntKind.i64.wrap (a.1 - 1), (nNext a.2.1 8).2, a.2.2.1 ++ [251], PUnit.unit))))
                        (.leaf (some (Go1.cont (IntKind.i64.wrap (a.1 - 1), (bif (nNext a.2.1 8).1 == 3 then (nByte (nNext (nNext a.2.1 8).2 16).2).2.1 else x81.1, bif (nNext a.2.1 8).1 == 3 then (nByte (nNext (nNext a.2.1 8).2 16).2).2.2 else x81.2), bif (nNext a.2.1 8).1 == 3 then x30 else x40, PUnit.unit)))))))
                     (.leaf none))
                    (.leaf none))
                   (.leaf none))
                  (.leaf none))
                 (.leaf none))
                (.leaf none))
               (.leaf none))
              (.leaf none))
             (.leaf none))
            (.leaf none))
           (.leaf none))
          (.leaf none))
         (.leaf none))
        (.leaf none))
       (.leaf none))
      (.leaf none))
     (.leaf none))
    (.leaf none))
   (.leaf none))
  (.leaf (some (Go1.brk (a.1, a.2.1, a.2.2.1, PUnit.unit))))
def nProgramL0O : Ora := loopE false nProgramL0c nProgramL0T (fun a => 400)
theorem nProgramL0_ok : OraOk (envX Tryz.prog [(44, nNextE), (86, nByteE), (87, nOpcodeE)] [] 9511883889056940159 8) (.block 0 (.loop (bodyIn Tryz.f64.body 0))) nProgramL0O :=
  loop_part (envX_ok (l := [(44, nNextE), (86, nByteE), (87, nOpcodeE)]) ⟨nNext_ok, nByte_ok, nOpcode_ok, trivial⟩ [] 9511883889056940159 8) (loopsOk_bare (by kernel_rfl)) (fun a => by kernel_rfl)
def nProgramT (s : List Int × Int) (n : Int) : RT (Option (List Int × List Int × Int)) :=
  let x1 : Int × (List Int × Int) × List Int × PUnit := ((nNext s (IntKind.i64.wrap (n + 1))).1, (nNext s (IntKind.i64.wrap (n + 1))).2, [], ())
  let x2 : Option (Bool × Int × (List Int × Int) × List Int × PUnit) := runF false nProgramL0T (fun a => 400) x1
  let x3 : (List Int × Int) × List Int × PUnit := (getO (false, x1) x2).2.2
  .br (nNextC s (IntKind.i64.wrap (n + 1)))
  (.br (okB x2)
   (.leaf (some ((x3.2.1, x3.1))))
   (.leaf none))
  (.leaf none)
def nProgram (s : List Int × Int) (n : Int) : List Int × List Int × Int := getO (nProgramRs.dflt, nProgramRb.dflt) (nProgramT s n).val
def nProgramC (s : List Int × Int) (n : Int) : Bool := okB (nProgramT s n).val
def nProgramE : Entry := boxE nProgramRb nProgramTs nProgramRs (fun a => some (nProgramC a.1 a.2)) (fun a => nProgram a.1 a.2)
theorem nProgram_ok : EntryOk Tryz.prog 64 nProgramE :=
  box_part (P := Tryz.prog) (n := 9511883889056940159) (k := 8) (l := [(44, nNextE), (86, nByteE), (87, nOpcodeE)]) (ol := [(0, nProgramL0O)]) ⟨nNext_ok, nByte_ok, nOpcode_ok, trivial⟩ Tryz.func64 rfl (by kernel_rfl) Tryz.call64 ⟨nProgramL0_ok, trivial⟩ (rb := nProgramRb) (ts := nProgramTs) (rs := nProgramRs) (t := fun a => nProgramT a.1 a.2) (fun a => by kernel_rfl)
end
end Go.Proofs.YtpkijkmagnhciaaGreat
open Go Go.S3 Go.Proofs Go.Proofs.Cells
set_option linter.unusedVariables false
set_option linter.unusedSimpArgs false
set_option maxRecDepth 100000
namespace Go.Proofs.YtpkijkmagnhciaaGreat
noncomputable section
def roomI (m : List (Int × Int)) : Bool := Nat.ble (m.length + 100000) most
theorem roomI_iff {m : List (Int × Int)} : roomI m = true ↔ m.length + 100000 ≤ most := by simp [roomI]
def iRun1E : Entry := pureE iRunTs iRunRs (fun a => some (smG a.2.1 && roomI a.2.2.1)) (fun a => runR a.1 a.2.1 a.2.2.1 a.2.2.2.1 a.2.2.2.2)
theorem iRun1_ok : EntryOk Tryz.prog 24 iRun1E := tight iRun_ok fun a h => by
  rw [Bool.and_eq_true] at h
  exact i_run a.1 a.2.1 a.2.2.1 a.2.2.2.1 a.2.2.2.2 h.1 (roomI_iff.1 h.2)
theorem jouts_refl (l : List (Int × Int)) (hl : l.length ≤ most) : jOutsC l l = true ∧ jOuts l l = true := by
  have hms := mst
  obtain ⟨r, hr, h1⟩ := runF_ind (fl := true) (t := jOutsL0T) (fuel := fun _ => 1000000000000)
    (fun a => ∃ i : Nat, i ≤ l.length ∧ a = (l, l, false, (l.length : Int), (i : Int), ()))
    (fun a => Int.toNat (a.2.2.2.1 - a.2.2.2.2.1)) (fun r => r.1 = false)
    (by
      rintro a ⟨i, hi, rfl⟩
      by_cases hlt : i < l.length
      · left
        have d : decide ((i : Int) < (l.length : Int)) = true := by simpa using hlt
        have r1 := rng_nat l i hlt
        refine ⟨_, ?_, ⟨i + 1, hlt, rfl⟩, by simp only; omega⟩
        simp only [jOutsL0T, RT.val, d, r1, cond_true, Bool.not_true, Bool.false_or, wadd1 i (by omega), beq_self_eq_true, Bool.and_self, cond_false]
      · right; left
        have d : decide ((i : Int) < (l.length : Int)) = false := by simpa using hlt
        exact ⟨(l, l, false, (l.length : Int), (i : Int), ()), by simp only [jOutsL0T, RT.val, d, cond_false], rfl⟩)
    (l, l, false, iN l.length, 0, ()) ⟨0, Nat.zero_le _, rfl⟩ (by simp only [iN]; omega)
  have hv : (jOutsT l l).val = some true := by
    have hn : (iN l.length != iN l.length) = false := by simp
    simp only [jOutsT, RT.val, hn, hr, okB, getO, h1, cond_true, cond_false]
  exact ⟨by simp only [jOutsC, hv]; rfl, by simp only [jOuts, hv, getO]⟩
end
end Go.Proofs.YtpkijkmagnhciaaGreat
set_option linter.unusedSimpArgs false
open Go Go.S3 Go.Proofs
set_option linter.unusedVariables false
set_option maxRecDepth 100000
namespace Go.Proofs.YtpkijkmagnhciaaGreat
noncomputable section
abbrev kRamTs : List Sh := []
abbrev kRamRs : Rs := Rs.one (Sh.one rcRG)
def kRamT : RT (List (Int × Int × Bool × Int)) :=
  .leaf ([(0, 65535, true, 0)])
def kRam : List (Int × Int × Bool × Int) := (kRamT ).val
def kRamE : Entry := pureE kRamTs kRamRs (fun _ => none) (fun a => kRam )
theorem kRam_ok : EntryOk Tryz.prog 28 kRamE :=
  pure_tot (P := Tryz.prog) (n := 1) (k := 8) (l := []) (ol := []) trivial Tryz.func28 rfl (by kernel_rfl) Tryz.call28 trivial (ts := kRamTs) (rs := kRamRs) (t := fun a => kRamT ) (fun a => by kernel_rfl)
abbrev kKnTs : List Sh := []
abbrev kKnRs : Rs := Rs.one (Sh.one R.bool)
def kKnT : RT (Option (Bool)) :=
  let x1 : List Int := [62, 5, 198, 7, 50, 16, 0, 211, 9, 118]
  let x2 : List (Int × Int) := loadX 0 x1
  let x3 : TC × List (Int × Int) × List (Int × Int) × Int := runR (1, (0, 0, 0, 0, 0, 0, 0, (false, false, false, false, false, false, false), 0, 0), false, false, false, 0, false, false, false, false, false, false, false) kRam x2 [] 100
  let x4 : TR × Bool × Bool × Bool × Int × Bool × Bool × Bool × Bool × Bool × Bool × Bool := x3.1.2
  let x5 : Bool := !x4.1.1 == 12
  let x6 : Bool := !x4.2.2.2.1
  let x7 : List (Int × Int) × List (Int × Int) × Int := x3.2
  let x8 : List (Int × Int) := x7.1
  let x9 : Bool := x5 || (x6 || smC x8)
  let x10 : List (Int × Int) × Int := x7.2
  .br (smB x1)
  (.br (smG kRam && roomI x2)
   (.br (!x9 || (x5 || (x6 || (!Cells.getX x8 16 == 12 || (!x10.2 == 5 || jOutsC x10.1 [(9, 12)])))))
    (.br (x9)
     (.leaf (some (true)))
     (.leaf none))
    (.leaf none))
   (.leaf none))
  (.leaf none)
def kKn : Bool := getO kKnRs.dflt (kKnT ).val
def kKnC : Bool := okB (kKnT ).val
def kKnE : Entry := pureE kKnTs kKnRs (fun a => some (kKnC )) (fun a => kKn )
theorem kKn_ok : EntryOk Tryz.prog 22 kKnE :=
  pure_part (P := Tryz.prog) (n := 127) (k := 8) (l := [(24, iRun1E), (26, jOutsE), (27, rLoad1E), (28, kRamE), (29, rGetM1E)]) (ol := []) ⟨iRun1_ok, jOuts_ok, rLoad1_ok, kRam_ok, rGetM1_ok, trivial⟩ Tryz.func22 rfl (by kernel_rfl) Tryz.call22 trivial (ts := kKnTs) (rs := kKnRs) (t := fun a => kKnT ) (fun a => by kernel_rfl)
end
end Go.Proofs.YtpkijkmagnhciaaGreat
set_option linter.unusedSimpArgs false
open Go Go.S3 Go.Proofs
set_option linter.unusedVariables false
set_option maxRecDepth 100000
namespace Go.Proofs.YtpkijkmagnhciaaGreat
noncomputable section
def ivtstatemake_FromE : Entry := .tree (evFunc (envX Tryz.prog [] [] 7 8) Tryz.f12)
theorem ivtstatemake_From_ok : EntryOk Tryz.prog 12 ivtstatemake_FromE := inl_ok (P := Tryz.prog) (n := 7) (k := 8) (l := []) (ol := []) trivial Tryz.func12 rfl (by kernel_rfl) Tryz.call12 trivial
def ivtstatelaw19_sceneE : Entry := .tree (evFunc (envX Tryz.prog [(12, ivtstatemake_FromE), (14, nCPUE), (27, rLoadN1E), (44, nNextE), (63, nMapE), (64, nProgramE), (65, nCellsE)] [] 1023 8) Tryz.f23)
theorem ivtstatelaw19_scene_ok : EntryOk Tryz.prog 23 ivtstatelaw19_sceneE := inl_ok (P := Tryz.prog) (n := 1023) (k := 8) (l := [(12, ivtstatemake_FromE), (14, nCPUE), (27, rLoadN1E), (44, nNextE), (63, nMapE), (64, nProgramE), (65, nCellsE)]) (ol := []) ⟨ivtstatemake_From_ok, nCPU_ok, rLoadN1_ok, nNext_ok, nMap_ok, nProgram_ok, nCells_ok, trivial⟩ Tryz.func23 rfl (by kernel_rfl) Tryz.call23 trivial
abbrev lContinuesTs : List Sh := [Sh.one (R.sl (R.int IntKind.i64)), Sh.one (R.int IntKind.i64), Sh.one (R.int IntKind.i64)]
abbrev lContinuesRs : Rs := Rs.one (Sh.one R.bool)
def lContinuesT (n : List Int) (i : Int) (k : Int) : RT (Option (Bool)) :=
  let x1 : Bool := smB (nProgram (nMap (nNext (nCPU (n, 0)).2 8).2).2 10).1
  let x2 : Bool := !x1
  let x3 : Bool := nCellsC (nProgram (nMap (nNext (nCPU (n, 0)).2 8).2).2 10).2 6
  let x4 : List (Int × Int) := Stg.l (newG rLoadNRe rLoadNEl (loadX 0 (nProgram (nMap (nNext (nCPU (n, 0)).2 8).2).2 10).1)) ++ (nCells (nProgram (nMap (nNext (nCPU (n, 0)).2 8).2).2 10).2 6).1
  let x5 : Bool := !nProgramC (nMap (nNext (nCPU (n, 0)).2 8).2).2 10 || (x2 || (!x3 || Nat.ble (List.length x4) most))
  let x6 : Bool := !x5
  let x7 : Bool := !nProgramC (nMap (nNext (nCPU (n, 0)).2 8).2).2 10 || (x2 || x3)
  let x8 : Bool := !x7
  let x9 : Bool := !nProgramC (nMap (nNext (nCPU (n, 0)).2 8).2).2 10 || x1
  let x10 : Bool := smG (nMap (nNext (nCPU (n, 0)).2 8).2).1 && roomI x4
  let x11 : TF × Int × Int := (nCPU (n, 0)).1.2.1.2.2.2.2.2.2.2
  let x12 : TC := ((nCPU (n, 0)).1.1, ((nCPU (n, 0)).1.2.1.1, (nCPU (n, 0)).1.2.1.2.1, (nCPU (n, 0)).1.2.1.2.2.1, (nCPU (n, 0)).1.2.1.2.2.2.1, (nCPU (n, 0)).1.2.1.2.2.2.2.1, (nCPU (n, 0)).1.2.1.2.2.2.2.2.1, (nCPU (n, 0)).1.2.1.2.2.2.2.2.2.1, x11.1, x11.2.1, IntKind.u16.wrap (nNext (nCPU (n, 0)).2 8).1), (nCPU (n, 0)).1.2.2)
  let x13 : TC × List (Int × Int) × List (Int × Int) × Int := runR x12 (nMap (nNext (nCPU (n, 0)).2 8).2).1 x4 [] (mPlace i 30)
  let x14 : List (Int × Int) × List (Int × Int) × Int := x13.2
  let x15 : List (Int × Int) := x14.1
  let x16 : TC × List (Int × Int) × List (Int × Int) × Int := runR x13.1 (nMap (nNext (nCPU (n, 0)).2 8).2).1 x15 [] (mPlace k 30)
  let x17 : TC := x16.1
  let x18 : TC × List (Int × Int) × List (Int × Int) × Int := runR x12 (nMap (nNext (nCPU (n, 0)).2 8).2).1 x4 [] (IntKind.i64.wrap (mPlace i 30 + mPlace k 30))
  let x19 : TC := x18.1
  let x20 : TR × Bool × Bool × Bool × Int × Bool × Bool × Bool × Bool × Bool × Bool × Bool := x17.2
  let x21 : TR := x20.1
  let x22 : TR × Bool × Bool × Bool × Int × Bool × Bool × Bool × Bool × Bool × Bool × Bool := x19.2
  let x23 : TR := x22.1
  let x24 : Int × Int × Int × Int × Int × Int × TF × Int × Int := x21.2
  let x25 : Int × Int × Int × Int × Int × Int × TF × Int × Int := x23.2
  let x26 : Int × Int × Int × Int × Int × TF × Int × Int := x24.2
  let x27 : Int × Int × Int × Int × Int × TF × Int × Int := x25.2
  let x28 : Int × Int × Int × Int × TF × Int × Int := x26.2
  let x29 : Int × Int × Int × Int × TF × Int × Int := x27.2
  let x30 : Int × Int × Int × TF × Int × Int := x28.2
  let x31 : Int × Int × Int × TF × Int × Int := x29.2
  let x32 : Int × Int × TF × Int × Int := x30.2
  let x33 : Int × Int × TF × Int × Int := x31.2
  let x34 : Int × TF × Int × Int := x32.2
  let x35 : Int × TF × Int × Int := x33.2
  let x36 : TF × Int × Int := x34.2
  let x37 : TF := x36.1
  let x38 : TF × Int × Int := x35.2
  let x39 : TF := x38.1
  let x40 : Bool × Bool × Bool × Bool × Bool × Bool := x37.2
  let x41 : Bool × Bool × Bool × Bool × Bool × Bool := x39.2
  let x42 : Bool × Bool × Bool × Bool × Bool := x40.2
  let x43 : Bool × Bool × Bool × Bool × Bool := x41.2
  let x44 : Bool × Bool × Bool × Bool := x42.2
  let x45 : Bool × Bool × Bool × Bool := x43.2
  let x46 : Bool × Bool × Bool := x44.2
  let x47 : Bool × Bool × Bool := x45.2
  let x48 : Bool × Bool := x46.2
  let x49 : Bool × Bool := x47.2
  let x50 : Int × Int := x36.2
  let x51 : Int × Int := x38.2
  let x52 : Bool × Bool × Bool × Int × Bool × Bool × Bool × Bool × Bool × Bool × Bool := x20.2
  let x53 : Bool × Bool × Bool × Int × Bool × Bool × Bool × Bool × Bool × Bool × Bool := x22.2
  let x54 : Bool × Bool × Int × Bool × Bool × Bool × Bool × Bool × Bool × Bool := x52.2
  let x55 : Bool × Bool × Int × Bool × Bool × Bool × Bool × Bool × Bool × Bool := x53.2
  let x56 : Bool × Int × Bool × Bool × Bool × Bool × Bool × Bool × Bool := x54.2
  let x57 : Bool × Int × Bool × Bool × Bool × Bool × Bool × Bool × Bool := x55.2
  let x58 : Int × Bool × Bool × Bool × Bool × Bool × Bool × Bool := x56.2
  let x59 : Int × Bool × Bool × Bool × Bool × Bool × Bool × Bool := x57.2
  let x60 : TF := x58.2
  let x61 : TF := x59.2
  let x62 : Bool × Bool × Bool × Bool × Bool × Bool := x60.2
  let x63 : Bool × Bool × Bool × Bool × Bool × Bool := x61.2
  let x64 : Bool × Bool × Bool × Bool × Bool := x62.2
  let x65 : Bool × Bool × Bool × Bool × Bool := x63.2
  let x66 : Bool × Bool × Bool × Bool := x64.2
  let x67 : Bool × Bool × Bool × Bool := x65.2
  let x68 : Bool × Bool × Bool := x66.2
  let x69 : Bool × Bool × Bool := x67.2
  let x70 : Bool × Bool := x68.2
  let x71 : Bool × Bool := x69.2
  let x72 : Bool := x17.1 == x19.1 && (x21.1 == x23.1 && (x24.1 == x25.1 && (x26.1 == x27.1 && (x28.1 == x29.1 && (x30.1 == x31.1 && (x32.1 == x33.1 && (x34.1 == x35.1 && (x37.1 == x39.1 && (x40.1 == x41.1 && (x42.1 == x43.1 && (x44.1 == x45.1 && (x46.1 == x47.1 && (x48.1 == x49.1 && (x48.2 == x49.2 && (x50.1 == x51.1 && (x50.2 == x51.2 && (x52.1 == x53.1 && (x54.1 == x55.1 && (x56.1 == x57.1 && (x58.1 == x59.1 && (x60.1 == x61.1 && (x62.1 == x63.1 && (x64.1 == x65.1 && (x66.1 == x67.1 && (x68.1 == x69.1 && (x70.1 == x71.1 && (x70.2 == x71.2 && true)))))))))))))))))))))))))))
  let x73 : Bool := !x72
  let x74 : List (Int × Int) × List (Int × Int) × Int := x16.2
  let x75 : List (Int × Int) := x74.1
  let x76 : Bool := x73 || smC x75
  let x77 : Bool := !x76
  let x78 : List (Int × Int) × List (Int × Int) × Int := x18.2
  let x79 : Bool := decide (x75 = x78.1)
  let x80 : Bool := !x79
  let x81 : List (Int × Int) × Int := x14.2
  let x82 : List (Int × Int) := [] ++ x81.1
  let x83 : Bool := x73 || (x80 || Nat.ble (List.length x82) most)
  let x84 : Bool := !x83
  let x85 : List (Int × Int) × Int := x74.2
  let x86 : List (Int × Int) := x82 ++ x85.1
  let x87 : Bool := x73 || (x80 || Nat.ble (List.length x86) most)
  let x88 : Bool := !x87
  let x89 : List (Int × Int) × Int := x78.2
  let x90 : List (Int × Int) := x89.1
  let x91 : Bool := x73 || (x80 || jOutsC x86 x90)
  let x92 : Bool := jOuts x86 x90
  let x93 : Bool := IntKind.i64.wrap (x81.2 + x85.2) == x89.2
  .br (!decide (iN (List.length n) > 150) || kKnC)
  (.br (decide (iN (List.length n) > 150))
   (.leaf (some (true)))
   (.br (!nCPUC (n, 0) || (!nNextC (nCPU (n, 0)).2 8 || (!nMapC (nNext (nCPU (n, 0)).2 8).2 || (x6 || (x8 || (!x9 || nProgramC (nMap (nNext (nCPU (n, 0)).2 8).2).2 10))))))
    (.br (!nCPUC (n, 0) || (!nNextC (nCPU (n, 0)).2 8 || (!nMapC (nNext (nCPU (n, 0)).2 8).2 || (x6 || (x8 || x9)))))
     (.br (!nCPUC (n, 0) || (!nNextC (nCPU (n, 0)).2 8 || (!nMapC (nNext (nCPU (n, 0)).2 8).2 || (x6 || x7))))
      (.br (!nCPUC (n, 0) || (!nNextC (nCPU (n, 0)).2 8 || (!nMapC (nNext (nCPU (n, 0)).2 8).2 || x5)))
       (.br (!nCPUC (n, 0) || (!nNextC (nCPU (n, 0)).2 8 || nMapC (nNext (nCPU (n, 0)).2 8).2))
        (.br (!nCPUC (n, 0) || nNextC (nCPU (n, 0)).2 8)
         (.br (nCPUC (n, 0))
          (.br (!mPlaceC i 30 || mPlaceC k 30)
           (.br (mPlaceC i 30)
            (.br (x10)
             (.br (smG (nMap (nNext (nCPU (n, 0)).2 8).2).1 && roomI x15)
              (.br (x10)
               (.br (x77 || (x84 || (x88 || (!x91 || (x73 || (x80 || (!x92 || (!x93 || kKnC))))))))
                (.br (x77 || (x84 || (x88 || x91)))
                 (.br (x77 || (x84 || x87))
                  (.br (x77 || x83)
                   (.br (x76)
                    (.leaf (some (x72 && (x79 && (x92 && (x93 && kKn))))))
                    (.leaf none))
                   (.leaf none))
                  (.leaf none))
                 (.leaf none))
                (.leaf none))
               (.leaf none))
              (.leaf none))
             (.leaf none))
            (.leaf none))
           (.leaf none))
          (.leaf none))
         (.leaf none))
        (.leaf none))
       (.leaf none))
      (.leaf none))
     (.leaf none))
    (.leaf none)))
  (.leaf none)
def lContinues (n : List Int) (i : Int) (k : Int) : Bool := getO lContinuesRs.dflt (lContinuesT n i k).val
def lContinuesC (n : List Int) (i : Int) (k : Int) : Bool := okB (lContinuesT n i k).val
def lContinuesE : Entry := pureE lContinuesTs lContinuesRs (fun a => some (lContinuesC a.1 a.2.1 a.2.2)) (fun a => lContinues a.1 a.2.1 a.2.2)
theorem lContinues_ok : EntryOk Tryz.prog 5 lContinuesE :=
  pure_part (P := Tryz.prog) (n := 8388607) (k := 8) (l := [(15, mPlaceE), (22, kKnE), (23, ivtstatelaw19_sceneE), (24, iRun1E), (25, rSameM1E), (26, jOutsE)]) (ol := []) ⟨mPlace_ok, kKn_ok, ivtstatelaw19_scene_ok, iRun1_ok, rSameM1_ok, jOuts_ok, trivial⟩ Tryz.func5 rfl (by kernel_rfl) Tryz.call5 trivial (ts := lContinuesTs) (rs := lContinuesRs) (t := fun a => lContinuesT a.1 a.2.1 a.2.2) (fun a => by kernel_rfl)
end
end Go.Proofs.YtpkijkmagnhciaaGreat
open Go Go.S3 Go.Proofs Go.Proofs.Cells
set_option linter.unusedVariables false
set_option linter.unusedSimpArgs false
set_option maxRecDepth 100000
namespace Go.Proofs.YtpkijkmagnhciaaGreat
noncomputable section
section
variable {c : CpuT} {m : MacT} {o : Int} {i : InsT} (hi : rDecode c.1 o = i)
include hi
end
end
end Go.Proofs.YtpkijkmagnhciaaGreat
open Go Go.S3 Go.Proofs Go.Proofs.Cells
set_option linter.unusedVariables false
set_option linter.unusedSimpArgs false
set_option maxRecDepth 100000
namespace Go.Proofs.YtpkijkmagnhciaaGreat
noncomputable section
def cA (chip a d e : Int) (v : Nat) (f : FlgT) (pc : Int) (h : Bool) : CpuT := (chip, (a, 0, 0, d, e, ((v / 256 : Nat) : Int), ((v % 256 : Nat) : Int), f, 0, pc), false, false, h, 0, false, false, false, false, false, false, false)
theorem behind (chip a d e : Int) (v : Nat) (f : FlgT) (p : Nat) (i : InsT) (n : Nat) (hn : i.2.1 = n) (hp : p + n < 1000) : behindX (cA chip a d e v f p false) false i = ((p + n : Nat) : Int) := by
  show IntKind.wrap .u16 ((p : Int) + IntKind.wrap .u16 i.2.1) = _
  rw [hn, w16 (by omega), show (p : Int) + (n : Int) = ((p + n : Nat) : Int) by omega, w16 (by omega)]
section
variable (chip : Int) (a b : Nat) (ha : a < 256) (hb : b < 256)
end
end
end Go.Proofs.YtpkijkmagnhciaaGreat
open Go Go.S3 Go.Proofs Go.Proofs.Cells
set_option linter.unusedVariables false
set_option linter.unusedSimpArgs false
set_option maxRecDepth 100000
namespace Go.Proofs.YtpkijkmagnhciaaGreat
noncomputable section
theorem lval {t : RT (Option Bool)} (h : t.val = some true) : okB t.val = true ∧ getO false t.val = true := by rw [h]; exact ⟨rfl, rfl⟩
theorem knownI : kKnC = true ∧ kKn = true := lval (t := kKnT) (by kernel_rfl)
theorem place_rng (x n : Int) (h0 : 0 < n) (h1 : n ≤ 4611686018427387904) : mPlaceC x n = true ∧ 0 ≤ mPlace x n ∧ mPlace x n < n := by
  have h := mPlace_eq x n h0 h1
  exact ⟨h.1, by rw [h.2]; exact Int.emod_nonneg _ (by omega), by rw [h.2]; exact Int.emod_lt_of_pos _ h0⟩
end
end Go.Proofs.YtpkijkmagnhciaaGreat
open Go Go.S3 Go.Proofs Go.Proofs.Cells
set_option linter.unusedVariables false
set_option linter.unusedSimpArgs false
set_option maxRecDepth 100000
namespace Go.Proofs.YtpkijkmagnhciaaGreat
noncomputable section
theorem NB.up {s : List Int × Int} {k j : Int} (h : NB s k) (hj : k ≤ j) : NB s j := ⟨h.1, by have := h.2; omega⟩
theorem nFlag_in {s : List Int × Int} {k : Int} (h : NB s k) (hk : k ≤ 1000000) : nFlagC s = true ∧ NB (nFlag s).2 (k + 1) := by
  obtain ⟨c1, b, _⟩ := nNext_in h hk 2 (by decide) (by decide)
  simp only [nFlagC, nFlag, nFlagT, RT.val, c1, cond_true, okB, getO]
  exact ⟨trivial, b⟩
theorem ble_le {a b : Nat} (h : a ≤ b) : Nat.ble a b = true := by rw [Nat.ble_eq]; exact h
theorem nCells_in {s : List Int × Int} {k : Int} (h : NB s k) (hk : k ≤ 500000) (n : Nat) (hn : n ≤ 100) :
    nCellsC s (n : Int) = true ∧ NB (nCells s (n : Int)).2 (k + 1 + 3 * n) ∧ (nCells s (n : Int)).1.length ≤ n := by
  have hms := mst
  have w0 : IntKind.wrap .i64 ((n : Int) + 1) = (n : Int) + 1 := wrap_i64 _ (by omega) (by omega)
  obtain ⟨c1, b1, d0, d1⟩ := nNext_in h (by omega) ((n : Int) + 1) (by omega) (by omega)
  obtain ⟨s1, hs1⟩ : ∃ s1, s1 = (nNext s ((n : Int) + 1)).2 := ⟨_, rfl⟩
  obtain ⟨q, hq⟩ : ∃ q : Nat, (nNext s ((n : Int) + 1)).1 = (q : Int) := ⟨_, (Int.toNat_of_nonneg d0).symm⟩
  rw [← hs1] at b1
  obtain ⟨r, hr, h1, s', o, hs', ho, hR⟩ := runF_ind (fl := false) (t := nCellsL0T) (fuel := fun a => 400)
    (fun a => ∃ (i : Nat) (s' : List Int × Int) (o : List Cell), i ≤ q ∧ NB s' (k + 1 + 3 * ((q - i : Nat) : Int)) ∧ o.length ≤ q - i ∧ a = ((i : Int), s', o, ()))
    (fun a => Int.toNat a.1) (fun r => r.1 = false ∧ ∃ (s' : List Int × Int) (o : List Cell), NB s' (k + 1 + 3 * (q : Int)) ∧ o.length ≤ q ∧ r.2 = ((0 : Int), s', o, ()))
    (by
      rintro a ⟨i, s', o, hi, hs', ho, rfl⟩
      cases i with
      | zero =>
        right; left
        exact ⟨_, by simp only [nCellsL0T, RT.val]; rfl, rfl, s', o, by simpa using hs', by omega, rfl⟩
      | succ i =>
        left
        have d : decide (((i + 1 : Nat) : Int) > 0) = true := decide_eq_true (by omega)
        obtain ⟨kw, bw, _⟩ := nWord_in hs' (by omega)
        obtain ⟨kb, bb, _⟩ := nByte_in bw (by omega)
        have hb : ∀ x : Cell, Nat.ble (o ++ [x]).length most = true := fun x => ble_le (by simp; omega)
        have w : IntKind.wrap .i64 (((i + 1 : Nat) : Int) - 1) = (i : Int) := by rw [wrap_i64 _ (by omega) (by omega)]; omega
        refine ⟨_, ?_, ⟨i, (nByte (nWord s').2).2, o ++ [((nWord s').1, (nByte (nWord s').2).1)], by omega, bb.up (by omega), by simp; omega, rfl⟩, by simp only; omega⟩
        simp only [nCellsL0T, RT.val, d, kw, kb, hb, w, cond_true, Bool.not_true, Bool.false_or, Bool.or_true, Bool.or_false])
    ((q : Int), s1, [], ()) ⟨q, s1, [], Nat.le_refl _, by simpa using b1, by simp, rfl⟩ (by simp only; omega)
  obtain ⟨r1, r2⟩ := r
  simp only at h1 hR
  subst h1 hR
  have hv : (nCellsT s (n : Int)).val = some (o, s') := by
    simp only [nCellsT, RT.val, w0, c1, hq, ← hs1, hr, okB, getO, cond_true]
  simp only [nCellsC, nCells, hv, okB, getO]
  exact ⟨trivial, hs'.up (by omega), by omega⟩
theorem nRegions_in {s : List Int × Int} {k : Int} (h : NB s k) (hk : k ≤ 500000) (n : Nat) (hn : n ≤ 100) :
    nRegionsC s (n : Int) = true ∧ NB (nRegions s (n : Int)).2 (k + 1 + 5 * n) ∧ (nRegions s (n : Int)).1.length ≤ n := by
  have hms := mst
  have w0 : IntKind.wrap .i64 ((n : Int) + 1) = (n : Int) + 1 := wrap_i64 _ (by omega) (by omega)
  obtain ⟨c1, b1, d0, d1⟩ := nNext_in h (by omega) ((n : Int) + 1) (by omega) (by omega)
  obtain ⟨L, N, hs1⟩ : ∃ L N, (L, N) = (nNext s ((n : Int) + 1)).2 := ⟨_, _, rfl⟩
  obtain ⟨q, hq⟩ : ∃ q : Nat, (nNext s ((n : Int) + 1)).1 = (q : Int) := ⟨_, (Int.toNat_of_nonneg d0).symm⟩
  rw [← hs1] at b1
  obtain ⟨r, hr, h1, L', N', o, hs', ho, hR⟩ := runF_ind (fl := false) (t := nRegionsL0T) (fuel := fun a => 400)
    (fun a => ∃ (i : Nat) (L : List Int) (N : Int) (o : List RegionT), i ≤ q ∧ NB (L, N) (k + 1 + 5 * ((q - i : Nat) : Int)) ∧ o.length ≤ q - i ∧ a = ((i : Int), (L, N), o, ()))
    (fun a => Int.toNat a.1) (fun r => r.1 = false ∧ ∃ (L : List Int) (N : Int) (o : List RegionT), NB (L, N) (k + 1 + 5 * (q : Int)) ∧ o.length ≤ q ∧ r.2 = ((0 : Int), (L, N), o, ()))
    (by
      rintro a ⟨i, L, N, o, hi, hs', ho, rfl⟩
      cases i with
      | zero =>
        right; left
        exact ⟨_, by simp only [nRegionsL0T, RT.val]; rfl, rfl, L, N, o, by simpa using hs', by omega, rfl⟩
      | succ i =>
        left
        have d : decide (((i + 1 : Nat) : Int) > 0) = true := decide_eq_true (by omega)
        obtain ⟨kw, bw, _⟩ := nWord_in hs' (by omega)
        obtain ⟨k1, b1, e0, e1⟩ := nNext_in bw (by omega) 6 (by decide) (by decide)
        obtain ⟨k2, b2, _⟩ := nNext_in b1 (by omega) 3 (by decide) (by decide)
        obtain ⟨k3, b3, f0, f1⟩ := nNext_in b2 (by omega) 5 (by decide) (by decide)
        have r1 : inRng (nNext (nWord (L, N)).2 6).1 6 = true := inRng_iff.2 ⟨e0, e1⟩
        have r2 : inRng (nNext (nNext (nNext (nWord (L, N)).2 6).2 3).2 5).1 5 = true := inRng_iff.2 ⟨f0, f1⟩
        have hb : ∀ x : RegionT, Nat.ble (o ++ [x]).length most = true := fun x => ble_le (by simp; omega)
        have w : IntKind.wrap .i64 (((i + 1 : Nat) : Int) - 1) = (i : Int) := by rw [wrap_i64 _ (by omega) (by omega)]; omega
        obtain ⟨o', ho'⟩ : ∃ o' : List RegionT, o' = o ++ [((nWord (L, N)).1, IntKind.u16.wrap (if 65535 < IntKind.i64.wrap (IntKind.i64.wrap (nWord (L, N)).1 + R.get (R.int IntKind.i64) [0, 3, 15, 255, 4095, 65535] (nNext (nWord (L, N)).2 6).1) then 65535 else IntKind.i64.wrap (IntKind.i64.wrap (nWord (L, N)).1 + R.get (R.int IntKind.i64) [0, 3, 15, 255, 4095, 65535] (nNext (nWord (L, N)).2 6).1)), decide ((nNext (nNext (nWord (L, N)).2 6).2 3).1 > 0), R.get (R.int IntKind.i64) [0, 0, 1, 2, 5] (nNext (nNext (nNext (nWord (L, N)).2 6).2 3).2 5).1)] := ⟨_, rfl⟩
        refine ⟨((i : Int), ((nNext (nNext (nNext (nWord (L, N)).2 6).2 3).2 5).2.1, (nNext (nNext (nNext (nWord (L, N)).2 6).2 3).2 5).2.2), o', ()), ?_, ⟨i, _, _, o', by omega, b3.up (by omega), by rw [ho']; simp; omega, rfl⟩, by simp only; omega⟩
        simp only [nRegionsL0T, RT.val, List.length_cons, List.length_nil, Nat.reduceAdd, d, kw, k1, k2, k3, r1, r2, hb, w, ho', cond_true, Bool.not_true, Bool.false_or, Bool.or_true, Bool.or_false])
    ((q : Int), (L, N), [], ()) ⟨q, L, N, [], Nat.le_refl _, by simpa using b1, by simp, rfl⟩ (by simp only; omega)
  obtain ⟨r1, r2⟩ := r
  simp only at h1 hR
  subst h1 hR
  have hv : (nRegionsT s (n : Int)).val = some (o, L', N') := by
    simp only [nRegionsT, RT.val, w0, c1, hq, ← hs1, hr, okB, getO, cond_true]
  simp only [nRegionsC, nRegions, hv, okB, getO]
  exact ⟨trivial, hs'.up (by omega), by omega⟩
theorem smB_ok {l : List Int} (h : l.length ≤ 1000) : smB l = true := ble_le (by have := mst; omega)
theorem smG_ok {l : List RegionT} (h : l.length ≤ 1000) : smG l = true := ble_le (by have := mst; omega)
theorem nMap_in {s : List Int × Int} {k : Int} (h : NB s k) (hk : k ≤ 400000) : nMapC s = true ∧ NB (nMap s).2 (k + 20) ∧ (nMap s).1.length ≤ 3 := by
  obtain ⟨c1, b1, l1⟩ := nRegions_in h (by omega) 2 (by omega)
  have c1 : nRegionsC s 2 = true := c1
  have b1 : NB (nRegions s 2).2 (k + 1 + 5 * ((2 : Nat) : Int)) := b1
  have l1 : (nRegions s 2).1.length ≤ 2 := l1
  obtain ⟨c2, b2, _⟩ := nNext_in b1 (by omega) 3 (by decide) (by decide)
  have hs : ∀ x : RegionT, Nat.ble ((nRegions s 2).1 ++ [x]).length most = true := fun x => ble_le (by have := mst; simp; omega)
  have hg : ∀ l : List RegionT, Stg.l (newG nRegionsRe nRegionsEl l) = l := fun _ => rfl
  have hv : (nMapT s).val = some ((nRegions s 2).1 ++ [(0, 65535, true, IntKind.wrap .i64 (Int.tdiv (nNext (nRegions s 2).2 3).1 2))], (nNext (nRegions s 2).2 3).2) := by
    simp only [nMapT, RT.val, hg, c1, c2, hs, Bool.not_true, Bool.false_or, Bool.or_true, cond_true]
  refine ⟨by simp only [nMapC, hv]; rfl, ?_, ?_⟩
  · simp only [nMap, hv, getO]; exact b2.up (by omega)
  · simp only [nMap, hv, getO]; simp; omega
theorem nProgram_in {s : List Int × Int} {k : Int} (h : NB s k) (hk : k ≤ 300000) (n : Nat) (hn : n ≤ 20) :
    nProgramC s (n : Int) = true ∧ NB (nProgram s (n : Int)).2 (k + 1 + 10 * n) ∧ (nProgram s (n : Int)).1.length ≤ 12 * n := by
  have hms := mst
  have w0 : IntKind.wrap .i64 ((n : Int) + 1) = (n : Int) + 1 := wrap_i64 _ (by omega) (by omega)
  obtain ⟨c1, b1, d0, d1⟩ := nNext_in h (by omega) ((n : Int) + 1) (by omega) (by omega)
  obtain ⟨s1, hs1⟩ : ∃ s1, s1 = (nNext s ((n : Int) + 1)).2 := ⟨_, rfl⟩
  obtain ⟨q, hq⟩ : ∃ q : Nat, (nNext s ((n : Int) + 1)).1 = (q : Int) := ⟨_, (Int.toNat_of_nonneg d0).symm⟩
  rw [← hs1] at b1
  obtain ⟨r, hr, h1, s', o, hs', ho, hR⟩ := runF_ind (fl := false) (t := nProgramL0T) (fuel := fun a => 400)
    (fun a => ∃ (i : Nat) (s' : List Int × Int) (o : List Int), i ≤ q ∧ NB s' (k + 1 + 10 * ((q - i : Nat) : Int)) ∧ o.length ≤ 12 * (q - i) ∧ a = ((i : Int), s', o, ()))
    (fun a => Int.toNat a.1) (fun r => r.1 = false ∧ ∃ (s' : List Int × Int) (o : List Int), NB s' (k + 1 + 10 * (q : Int)) ∧ o.length ≤ 12 * q ∧ r.2 = ((0 : Int), s', o, ()))
    (by
      rintro a ⟨i, s', o, hi, hs', ho, rfl⟩
      cases i with
      | zero =>
        right; left
        exact ⟨_, by simp only [nProgramL0T, RT.val]; rfl, rfl, s', o, by simpa using hs', by omega, rfl⟩
      | succ i =>
        left
        have d : decide (((i + 1 : Nat) : Int) > 0) = true := decide_eq_true (by omega)
        have w : IntKind.wrap .i64 (((i + 1 : Nat) : Int) - 1) = (i : Int) := by rw [wrap_i64 _ (by omega) (by omega)]; omega
        obtain ⟨k0, b0, _⟩ := nNext_in hs' (by omega) 8 (by decide) (by decide)
        obtain ⟨k1, b1, e0, e1⟩ := nNext_in b0 (by omega) 4 (by decide) (by decide)
        obtain ⟨k2, b2, _⟩ := nNext_in b1 (by omega) 256 (by decide) (by decide)
        obtain ⟨k3, b3, f0, f1⟩ := nNext_in b2 (by omega) 4 (by decide) (by decide)
        obtain ⟨k4, b4, _⟩ := nByte_in b0 (by omega)
        obtain ⟨k5, b5, _⟩ := nNext_in b4 (by omega) 8 (by decide) (by decide)
        obtain ⟨k6, b6, _⟩ := nNext_in b0 (by omega) 16 (by decide) (by decide)
        obtain ⟨k7, b7, _⟩ := nByte_in b6 (by omega)
        obtain ⟨k8, b8, _⟩ := nOpcode_in b0 (by omega)
        obtain ⟨k9, b9, _⟩ := nNext_in b8 (by omega) 64 (by decide) (by decide)
        obtain ⟨ka, ba, g0, g1⟩ := nNext_in b9 (by omega) 4 (by decide) (by decide)
        have r1 : inRng (nNext (nNext s' 8).2 4).1 4 = true := inRng_iff.2 ⟨e0, e1⟩
        have r2 : inRng (nNext (nNext (nNext (nNext s' 8).2 4).2 256).2 4).1 4 = true := inRng_iff.2 ⟨f0, f1⟩
        have r3 : inRng (nNext (nNext (nOpcode (nNext s' 8).2).2 64).2 4).1 4 = true := inRng_iff.2 ⟨g0, g1⟩
        have hb : ∀ x : List Int, x.length ≤ 12 → Nat.ble (o ++ x).length most = true := fun x hx => ble_le (by rw [List.length_append]; omega)
        have q1 : ∀ a b c : Int, Nat.ble (o ++ [a, b, c]).length most = true := fun a b c => hb _ (by simp)
        have q2 : ∀ a b c d : Int, Nat.ble (o ++ [a, b, c, d]).length most = true := fun a b c d => hb _ (by simp)
        have q3 : ∀ a : Int, Nat.ble (o ++ [a]).length most = true := fun a => hb _ (by simp)
        have q4 : ∀ a b c d e f g h i j k l : Int, Nat.ble (o ++ [a, b, c, d, e, f, g, h, i, j, k, l]).length most = true := fun a b c d e f g h i j k l => hb _ (by simp)
        have hv : ∃ s2 x, x.length ≤ 12 ∧ NB s2 (k + 1 + 10 * ((q - i : Nat) : Int)) ∧ (nProgramL0T (((i + 1 : Nat) : Int), s', o, ())).val = some (Go1.cont ((i : Int), s2, o ++ x, ())) := by
          simp only [nProgramL0T, RT.val, List.length_cons, List.length_nil, Nat.reduceAdd, d, w, k0, k1, k2, k3, k4, k5, k6, k7, k8, k9, ka, r1, r2, r3, q1, q2, q3, q4, cond_true, Bool.not_true, Bool.false_or, Bool.or_true, Bool.or_false]
          cases (nNext s' 8).1 == 0
          · cases (nNext s' 8).1 == 1
            · cases (nNext s' 8).1 == 2
              · cases (nNext s' 8).1 == 3
                · exact ⟨_, [(nOpcode (nNext s' 8).2).1, IntKind.wrap .u8 (nNext (nOpcode (nNext s' 8).2).2 64).1, R.get (R.int .u8) [0, 0, 1, 255] (nNext (nNext (nOpcode (nNext s' 8).2).2 64).2 4).1], by simp, ba.up (by omega), rfl⟩
                · exact ⟨_, [62, IntKind.wrap .u8 (IntKind.wrap .i64 (16 + (nNext (nNext s' 8).2 16).1)), 211, 0, 62, (nByte (nNext (nNext s' 8).2 16).2).1, 211, 1, 62, 0, 211, 1], by simp, b7.up (by omega), rfl⟩
              · exact ⟨_, [251], by simp, b0.up (by omega), rfl⟩
            · exact ⟨_, [62, (nByte (nNext s' 8).2).1, 211, IntKind.wrap .u8 (nNext (nByte (nNext s' 8).2).2 8).1], by simp, b5.up (by omega), rfl⟩
          · exact ⟨_, [R.get (R.int .u8) [33, 49, 1, 17] (nNext (nNext s' 8).2 4).1, IntKind.wrap .u8 (nNext (nNext (nNext s' 8).2 4).2 256).1, R.get (R.int .u8) [0, 0, 1, 255] (nNext (nNext (nNext (nNext s' 8).2 4).2 256).2 4).1], by simp, b3.up (by omega), rfl⟩
        obtain ⟨s2, x, hx, hs2, hv⟩ := hv
        exact ⟨_, hv, ⟨i, s2, o ++ x, by omega, hs2, by rw [List.length_append]; omega, rfl⟩, by simp only; omega⟩)
    ((q : Int), s1, [], ()) ⟨q, s1, [], Nat.le_refl _, by simpa using b1, by simp, rfl⟩ (by simp only; omega)
  obtain ⟨r1, r2⟩ := r
  simp only at h1 hR
  subst h1 hR
  have hv : (nProgramT s (n : Int)).val = some (o, s') := by
    simp only [nProgramT, RT.val, w0, c1, hq, ← hs1, hr, okB, getO, cond_true]
  simp only [nProgramC, nProgram, hv, okB, getO]
  exact ⟨trivial, hs'.up (by omega), by omega⟩
theorem nCPU_in {s : List Int × Int} {k : Int} (h : NB s k) (hk : k ≤ 300000) : nCPUC s = true ∧ NB (nCPU s).2 (k + 40) ∧ (nCPU s).1.2.2.2.2.1 = false := by
  obtain ⟨c0, b0, _⟩ := nChip_in h (by omega)
  obtain ⟨c1, b1, _⟩ := nRegs_in b0 (by omega) (nChip s).1
  obtain ⟨c2, b2⟩ := nFlag_in b1 (by omega)
  obtain ⟨c3, b3, _⟩ := nNext_in b2 (by omega) 5 (by decide) (by decide)
  obtain ⟨c4, b4, _⟩ := nNext_in b3 (by omega) 8 (by decide) (by decide)
  obtain ⟨c5, b5, _⟩ := nNext_in b4 (by omega) 5 (by decide) (by decide)
  obtain ⟨c6, b6⟩ := nFlag_in b5 (by omega)
  obtain ⟨c7, b7⟩ := nFlag_in b6 (by omega)
  obtain ⟨c8, b8⟩ := nFlag_in b7 (by omega)
  obtain ⟨c9, b9, _⟩ := nNext_in b8 (by omega) 4 (by decide) (by decide)
  obtain ⟨ca, ba⟩ := nFlag_in b9 (by omega)
  obtain ⟨cb, bb⟩ := nFlag_in ba (by omega)
  have hv : ∃ c s', (nCPUT s).val = some (c, s') ∧ NB s' (k + 40) ∧ c.2.2.2.2.1 = false := by
    simp only [nCPUT, RT.val, c0, c1, c2, c3, c4, c5, c6, c7, c8, c9, ca, cb, cond_true, Bool.not_true, Bool.false_or, Bool.or_true]
    cases (nChip s).1 == 2
    · exact ⟨_, _, rfl, b3.up (by omega), rfl⟩
    · exact ⟨_, _, rfl, bb.up (by omega), rfl⟩
  obtain ⟨c, s', hv, h1, h2⟩ := hv
  simp only [nCPUC, nCPU, hv, okB, getO]
  exact ⟨trivial, h1, h2⟩
end
end Go.Proofs.YtpkijkmagnhciaaGreat
open Go Go.S3 Go.Proofs Go.Proofs.Cells
set_option linter.unusedVariables false
set_option linter.unusedSimpArgs false
set_option maxRecDepth 100000
namespace Go.Proofs.YtpkijkmagnhciaaGreat
noncomputable section
theorem stg_load (l : List Cell) : Stg.l (newG rLoadNRe rLoadNEl l) = l := rfl
theorem scene_ok (n : List Int) : nCPUC (n, 0) = true ∧ nNextC (nCPU (n, 0)).2 8 = true ∧ nMapC (nNext (nCPU (n, 0)).2 8).2 = true ∧
    nProgramC (nMap (nNext (nCPU (n, 0)).2 8).2).2 10 = true ∧ nCellsC (nProgram (nMap (nNext (nCPU (n, 0)).2 8).2).2 10).2 6 = true ∧
    (nMap (nNext (nCPU (n, 0)).2 8).2).1.length ≤ 3 ∧ (nProgram (nMap (nNext (nCPU (n, 0)).2 8).2).2 10).1.length ≤ 120 ∧
    (nCells (nProgram (nMap (nNext (nCPU (n, 0)).2 8).2).2 10).2 6).1.length ≤ 6 ∧ (nCPU (n, 0)).1.2.2.2.2.1 = false := by
  obtain ⟨c1, b1, h1⟩ := nCPU_in (from_ok n) (by omega)
  obtain ⟨c2, b2, _⟩ := nNext_in b1 (by omega) 8 (by decide) (by decide)
  obtain ⟨c3, b3, l3⟩ := nMap_in b2 (by omega)
  obtain ⟨c4, b4, l4⟩ := nProgram_in b3 (by omega) 10 (by omega)
  obtain ⟨c5, b5, l5⟩ := nCells_in b4 (by omega) 6 (by omega)
  exact ⟨c1, c2, c3, c4, c5, l3, l4, l5, h1⟩
theorem load_len (t : Int) (b : List Int) : (loadX t b).length ≤ b.length := by
  have := normX_len (loadL t b b.length)
  rw [loadL_len] at this
  exact this
theorem runR_len (c : CpuT) (rg : List RegionT) (m : List Cell) (ins : List Int) (k : Int) (hk : k ≤ 100) : (runR c rg m ins k).2.1.length ≤ m.length + 600 ∧ (runR c rg m ins k).2.2.1.length ≤ 600 := by
  have h := run_inv (limK k).toNat c (startX rg m ins) 0
  have h1 := normX_len m
  have h2 : (limK k).toNat ≤ 100 := by unfold limK; split <;> omega
  have h3 := h.2.2.1
  have h4 := h.2.2.2.2
  refine ⟨?_, ?_⟩
  · have : (startX rg m ins).2.1.length ≤ m.length := h1
    exact Nat.le_trans h3 (by omega)
  · have : (startX rg m ins).2.2.2.length = 0 := rfl
    exact Nat.le_trans h4 (by omega)
theorem dself {α : Type} [DecidableEq α] (a : α) : decide (a = a) = true := decide_eq_true rfl
theorem used_rng : ∀ (n : Nat) (c : CpuT) (m : MacT) (u : Nat), ∃ v : Nat, (runX n c m u).2.2 = v ∧ v ≤ u + n
  | 0, c, m, u => ⟨u, rfl, by omega⟩
  | n + 1, c, m, u => by
    rw [run_succ]
    cases c.2.2.2.2.1
    · obtain ⟨v, h1, h2⟩ := used_rng n (stepX c 0 noL m).1 (stepX c 0 noL m).2.1 (u + 1)
      exact ⟨v, h1, by omega⟩
    · exact ⟨u, rfl, by omega⟩
theorem run_nil : ∀ (n : Nat) (c : CpuT) (m : MacT) (u : Int), m.2.2.1 = [] → (runX n c m u).2.1.2.2.1 = [] := by
  intro n c m u h
  have := (run_inv n c m u).2.2.2.1
  rw [h] at this
  exact List.length_eq_zero_iff.1 (by simpa using this)
theorem lim_small (k : Int) (h0 : 0 ≤ k) (h1 : k ≤ 100) : limK k = k := by unfold limK; rw [if_neg (by omega)]
theorem smC_ok' {l : List Cell} (h : l.length ≤ 100000) : smC l = true := ble_le (by have := mst; omega)
theorem runR_add (c : CpuT) (rg : List RegionT) (m : List Cell) (i k : Int) (h0 : 0 ≤ i) (h1 : i ≤ 40) (h2 : 0 ≤ k) (h3 : k ≤ 40) :
    runR c rg m [] (i + k) = ((runR (runR c rg m [] i).1 rg (runR c rg m [] i).2.1 [] k).1, (runR (runR c rg m [] i).1 rg (runR c rg m [] i).2.1 [] k).2.1,
      (runR c rg m [] i).2.2.1 ++ (runR (runR c rg m [] i).1 rg (runR c rg m [] i).2.1 [] k).2.2.1, (runR (runR c rg m [] i).1 rg (runR c rg m [] i).2.1 [] k).2.2.2 + (runR c rg m [] i).2.2.2) := by
  obtain ⟨i, rfl⟩ : ∃ a : Nat, i = a := ⟨_, (Int.toNat_of_nonneg h0).symm⟩
  obtain ⟨k, rfl⟩ : ∃ a : Nat, k = a := ⟨_, (Int.toNat_of_nonneg h2).symm⟩
  unfold runR
  rw [lim_small _ h0 (by omega), lim_small _ h2 (by omega), lim_small _ (by omega) (by omega), show ((i : Int) + (k : Int)).toNat = i + k by omega, Int.toNat_natCast, Int.toNat_natCast, run_add]
  have hi := run_inv i c (startX rg m []) 0
  have hn := run_nil i c (startX rg m []) 0 rfl
  generalize runX i c (startX rg m []) 0 = r at hi hn
  obtain ⟨c', ⟨g', p, ins, o⟩, u⟩ := r
  simp only at hi hn
  have hg : g' = rg := hi.1
  have hv : Vld p := hi.2.1 (normX_vld m)
  subst hg hn
  have hs : startX g' p [] = (g', p, [], []) := by unfold startX; rw [normX_same hv]
  have hp : ((g', p, [], o) : MacT) = pre o (g', p, [], []) := by simp [pre]
  simp only [hs]
  rw [hp, run_pre]
  have := run_used u k c' (g', p, [], []) 0
  rw [Int.zero_add] at this
  rw [this]
  rfl
theorem continues_law (n : List Int) (i k : Int) : lContinuesC n i k = true ∧ lContinues n i k = true := by
  have hms := mst
  obtain ⟨c1, c2, c3, c4, c5, l3, l4, l5, _⟩ := scene_ok n
  have hi := place_rng i 30 (by decide) (by decide)
  have hk := place_rng k 30 (by decide) (by decide)
  have hb1 : smB (nProgram (nMap (nNext (nCPU (n, 0)).2 8).2).2 10).1 = true := smB_ok (by omega)
  have hl := load_len 0 (nProgram (nMap (nNext (nCPU (n, 0)).2 8).2).2 10).1
  have hx : Nat.ble (loadX 0 (nProgram (nMap (nNext (nCPU (n, 0)).2 8).2).2 10).1 ++ (nCells (nProgram (nMap (nNext (nCPU (n, 0)).2 8).2).2 10).2 6).1).length most = true := ble_le (by rw [List.length_append]; omega)
  have hg : smG (nMap (nNext (nCPU (n, 0)).2 8).2).1 = true := smG_ok (by omega)
  have hm : (loadX 0 (nProgram (nMap (nNext (nCPU (n, 0)).2 8).2).2 10).1 ++ (nCells (nProgram (nMap (nNext (nCPU (n, 0)).2 8).2).2 10).2 6).1).length ≤ 200 := by rw [List.length_append]; omega
  have hv : (lContinuesT n i k).val = some true := by
    unfold lContinuesT
    simp only [RT.val, stg_load, c1, c2, c3, c4, c5, hb1, hx, hg, hi.1, hk.1, knownI.1, knownI.2, Bool.not_true, Bool.not_false, Bool.and_self, Bool.or_true, Bool.true_or, Bool.false_or, cond_true]
    generalize loadX 0 (nProgram (nMap (nNext (nCPU (n, 0)).2 8).2).2 10).1 ++ (nCells (nProgram (nMap (nNext (nCPU (n, 0)).2 8).2).2 10).2 6).1 = m at hm ⊢
    generalize (((nCPU (n, 0)).1.1, ((nCPU (n, 0)).1.2.1.1, (nCPU (n, 0)).1.2.1.2.1, (nCPU (n, 0)).1.2.1.2.2.1, (nCPU (n, 0)).1.2.1.2.2.2.1, (nCPU (n, 0)).1.2.1.2.2.2.2.1, (nCPU (n, 0)).1.2.1.2.2.2.2.2.1, (nCPU (n, 0)).1.2.1.2.2.2.2.2.2.1, (nCPU (n, 0)).1.2.1.2.2.2.2.2.2.2.1, (nCPU (n, 0)).1.2.1.2.2.2.2.2.2.2.2.1, IntKind.wrap .u16 (nNext (nCPU (n, 0)).2 8).1), (nCPU (n, 0)).1.2.2) : CpuT) = c
    generalize (nMap (nNext (nCPU (n, 0)).2 8).2).1 = rg at hg ⊢
    generalize mPlace i 30 = i' at hi ⊢
    generalize mPlace k 30 = k' at hk ⊢
    have hw : IntKind.wrap .i64 (i' + k') = i' + k' := wrap_i64 _ (by omega) (by omega)
    have hadd := runR_add c rg m i' k' hi.2.1 (by omega) hk.2.1 (by omega)
    have l1 := runR_len c rg m [] i' (by omega)
    have l2 := runR_len (runR c rg m [] i').1 rg (runR c rg m [] i').2.1 [] k' (by omega)
    obtain ⟨u1, e1, q1⟩ : ∃ v : Nat, (runR c rg m [] i').2.2.2 = v ∧ v ≤ 100 := by
      obtain ⟨v, h1, h2⟩ := used_rng (limK i').toNat c (startX rg m []) 0
      rw [lim_small i' hi.2.1 (by omega)] at h2
      exact ⟨v, h1, by omega⟩
    obtain ⟨u2, e2, q2⟩ : ∃ v : Nat, (runR (runR c rg m [] i').1 rg (runR c rg m [] i').2.1 [] k').2.2.2 = v ∧ v ≤ 100 := by
      obtain ⟨v, h1, h2⟩ := used_rng (limK k').toNat (runR c rg m [] i').1 (startX rg (runR c rg m [] i').2.1 []) 0
      rw [lim_small k' hk.2.1 (by omega)] at h2
      exact ⟨v, h1, by omega⟩
    rw [hw, hadd]
    generalize runR (runR c rg m [] i').1 rg (runR c rg m [] i').2.1 [] k' = B at *
    generalize runR c rg m [] i' = A at *
    have r1 : roomI m = true := roomI_iff.2 (by omega)
    have r2 : roomI A.2.1 = true := roomI_iff.2 (by omega)
    have s1 : smC B.2.1 = true := smC_ok' (by omega)
    have b1 : Nat.ble A.2.2.1.length most = true := ble_le (by omega)
    have b2 : Nat.ble (A.2.2.1 ++ B.2.2.1).length most = true := ble_le (by rw [List.length_append]; omega)
    have jo := jouts_refl (A.2.2.1 ++ B.2.2.1) (by rw [List.length_append]; omega)
    have eu : IntKind.wrap .i64 (A.2.2.2 + B.2.2.2) = B.2.2.2 + A.2.2.2 := by rw [wrap_i64 _ (by omega) (by omega)]; omega
    simp only [List.nil_append, r1, r2, s1, b1, b2, jo.1, jo.2, eu, dself, knownI.1, knownI.2, decide_true, beq_self_eq_true, Bool.not_true, Bool.and_self, Bool.or_true, Bool.or_self, Bool.false_or, Bool.true_or, cond_true, Bool.cond_self]
  exact ⟨by simp only [lContinuesC, hv]; rfl, by simp only [lContinues, hv, getO]⟩
end
end Go.Proofs.YtpkijkmagnhciaaGreat
