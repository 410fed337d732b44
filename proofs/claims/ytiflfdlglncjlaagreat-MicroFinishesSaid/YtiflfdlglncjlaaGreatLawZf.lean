/-
  Contracts of functions; each found by the symbolic executor and checked by the kernel. Conditions: none.
-/
import Derived.Test.YtiflfdlglncjlaaGreatS3D
import Derived.Test.YtiflfdlglncjlaaGreatProg
import Derived.Test.YtiflfdlglncjlaaGreatLawZo
import Derived.Test.YtiflfdlglncjlaaGreatKnownF
import Derived.Test.YtiflfdlglncjlaaGreatFinAll
import Derived.Test.YtiflfdlglncjlaaGreatFinAllR
set_option linter.unusedSimpArgs false
open Go Go.S3 Go.Proofs
set_option linter.unusedVariables false
set_option maxRecDepth 100000
namespace Go.Proofs.YtiflfdlglncjlaaGreat
noncomputable section
abbrev lMFinTs : List Sh := [Sh.agg (R.pair (R.int IntKind.i64) (R.pair (R.pair (R.int IntKind.u8) (R.pair (R.int IntKind.u8) (R.pair (R.int IntKind.u8) (R.pair (R.int IntKind.u8) (R.pair (R.int IntKind.u8) (R.pair (R.int IntKind.u8) (R.pair (R.int IntKind.u8) (R.pair (R.pair R.bool (R.pair R.bool (R.pair R.bool (R.pair R.bool (R.pair R.bool (R.pair R.bool R.bool)))))) (R.pair (R.int IntKind.u16) (R.int IntKind.u16)))))))))) (R.pair R.bool (R.pair R.bool (R.pair R.bool (R.pair (R.int IntKind.u8) (R.pair R.bool (R.pair R.bool (R.pair R.bool (R.pair R.bool (R.pair R.bool (R.pair R.bool R.bool)))))))))))), Sh.one (R.int IntKind.i64), Sh.one (R.sl (R.int IntKind.u8)), Sh.agg (R.pair R.bool (R.pair R.bool (R.pair R.bool (R.pair R.bool (R.pair R.bool (R.pair R.bool (R.pair R.bool (R.pair R.bool R.bool)))))))), Sh.one (R.sl (R.int IntKind.i64)), Sh.one (R.int IntKind.u8)]

abbrev lMFinRs : Rs := Rs.one (Sh.one R.bool)

noncomputable def lMFinT (c : TC) (s : Int) (g : List Int) (l : Bool × Bool × Bool × Bool × Bool × Bool × Bool × Bool × Bool) (n : List Int) (op : Int) : RT (Option (Bool)) :=
  let x1 : Int := (finX c s g l).2.1.2.2.2.2.2.2.1
  let x2 : TF × Int × Int := (finX c s g l).2.1.2.2.2.2.2.2.2
  let x3 : TF := x2.1
  let x4 : Bool := x3.1
  let x5 : Bool × Bool × Bool × Bool × Bool × Bool := x3.2
  let x6 : Bool := x5.1
  let x7 : Bool × Bool × Bool × Bool × Bool := x5.2
  let x8 : Bool := x7.1
  let x9 : Bool × Bool × Bool × Bool := x7.2
  let x10 : Bool := x9.1
  let x11 : Bool × Bool × Bool := x9.2
  let x12 : Bool := x11.1
  let x13 : Bool × Bool := x11.2
  let x14 : Bool := x13.1
  let x15 : Bool := x13.2
  let x16 : Int × Int := x2.2
  let x17 : Int := x16.1
  let x18 : Int := x16.2
  let x19 : Bool := (finX c s g l).2.2.2.2.2.2.2.2.1
  let x20 : Bool × Bool × Bool × Bool := (finX c s g l).2.2.2.2.2.2.2.2.2
  let x21 : Bool := x20.1
  let x22 : Bool × Bool × Bool := x20.2
  let x23 : Bool := x22.1
  let x24 : Bool × Bool := x22.2
  let x25 : Bool := x24.1
  let x26 : Bool := x24.2
  let x27 : TC := finX (kOperate n op).1 (kOperate n op).2.1 (kOperate n op).2.2 l
  let x28 : Int := x27.1
  let x29 : TR × Bool × Bool × Bool × Int × Bool × Bool × Bool × Bool × Bool × Bool × Bool := x27.2
  let x30 : TR := x29.1
  let x31 : Int := x30.1
  let x32 : Int × Int × Int × Int × Int × Int × TF × Int × Int := x30.2
  let x33 : Int := x32.1
  let x34 : Int × Int × Int × Int × Int × TF × Int × Int := x32.2
  let x35 : Int := x34.1
  let x36 : Int × Int × Int × Int × TF × Int × Int := x34.2
  let x37 : Int := x36.1
  let x38 : Int × Int × Int × TF × Int × Int := x36.2
  let x39 : Int := x38.1
  let x40 : Int × Int × TF × Int × Int := x38.2
  let x41 : Int := x40.1
  let x42 : Int × TF × Int × Int := x40.2
  let x43 : Int := x42.1
  let x44 : TF × Int × Int := x42.2
  let x45 : TF := x44.1
  let x46 : Bool := x45.1
  let x47 : Bool × Bool × Bool × Bool × Bool × Bool := x45.2
  let x48 : Bool := x47.1
  let x49 : Bool × Bool × Bool × Bool × Bool := x47.2
  let x50 : Bool := x49.1
  let x51 : Bool × Bool × Bool × Bool := x49.2
  let x52 : Bool := x51.1
  let x53 : Bool × Bool × Bool := x51.2
  let x54 : Bool := x53.1
  let x55 : Bool × Bool := x53.2
  let x56 : Bool := x55.1
  let x57 : Bool := x55.2
  let x58 : Int × Int := x44.2
  let x59 : Int := x58.1
  let x60 : Int := x58.2
  let x61 : Bool × Bool × Bool × Int × Bool × Bool × Bool × Bool × Bool × Bool × Bool := x29.2
  let x62 : Bool := x61.1
  let x63 : Bool × Bool × Int × Bool × Bool × Bool × Bool × Bool × Bool × Bool := x61.2
  let x64 : Bool := x63.1
  let x65 : Bool × Int × Bool × Bool × Bool × Bool × Bool × Bool × Bool := x63.2
  let x66 : Bool := x65.1
  let x67 : Int × Bool × Bool × Bool × Bool × Bool × Bool × Bool := x65.2
  let x68 : Int := x67.1
  let x69 : TF := x67.2
  let x70 : Bool := x69.1
  let x71 : Bool × Bool × Bool × Bool × Bool × Bool := x69.2
  let x72 : Bool := x71.1
  let x73 : Bool × Bool × Bool × Bool × Bool := x71.2
  let x74 : Bool := x73.1
  let x75 : Bool × Bool × Bool × Bool := x73.2
  let x76 : Bool := x75.1
  let x77 : Bool × Bool × Bool := x75.2
  let x78 : Bool := x77.1
  let x79 : Bool × Bool := x77.2
  let x80 : Bool := x79.1
  let x81 : Bool := x79.2
  .br (decide (iN (List.length g) > 40) || decide (iN (List.length n) > 80))
  (.leaf (some (true)))
  (.br (kOperateC n op)
   (.leaf (some ((finX c s g l).1 == (finX c s g l).1 && ((finX c s g l).2.1.1 == (finX c s g l).2.1.1 && ((finX c s g l).2.1.2.1 == (finX c s g l).2.1.2.1 && ((finX c s g l).2.1.2.2.1 == (finX c s g l).2.1.2.2.1 && ((finX c s g l).2.1.2.2.2.1 == (finX c s g l).2.1.2.2.2.1 && ((finX c s g l).2.1.2.2.2.2.1 == (finX c s g l).2.1.2.2.2.2.1 && ((finX c s g l).2.1.2.2.2.2.2.1 == (finX c s g l).2.1.2.2.2.2.2.1 && (x1 == x1 && (x4 == x4 && (x6 == x6 && (x8 == x8 && (x10 == x10 && (x12 == x12 && (x14 == x14 && (x15 == x15 && (x17 == x17 && (x18 == x18 && ((finX c s g l).2.2.1 == (finX c s g l).2.2.1 && ((finX c s g l).2.2.2.1 == (finX c s g l).2.2.2.1 && ((finX c s g l).2.2.2.2.1 == (finX c s g l).2.2.2.2.1 && ((finX c s g l).2.2.2.2.2.1 == (finX c s g l).2.2.2.2.2.1 && ((finX c s g l).2.2.2.2.2.2.1 == (finX c s g l).2.2.2.2.2.2.1 && ((finX c s g l).2.2.2.2.2.2.2.1 == (finX c s g l).2.2.2.2.2.2.2.1 && (x19 == x19 && (x21 == x21 && (x23 == x23 && (x25 == x25 && (x26 == x26 && true))))))))))))))))))))))))))) && (x28 == x28 && (x31 == x31 && (x33 == x33 && (x35 == x35 && (x37 == x37 && (x39 == x39 && (x41 == x41 && (x43 == x43 && (x46 == x46 && (x48 == x48 && (x50 == x50 && (x52 == x52 && (x54 == x54 && (x56 == x56 && (x57 == x57 && (x59 == x59 && (x60 == x60 && (x62 == x62 && (x64 == x64 && (x66 == x66 && (x68 == x68 && (x70 == x70 && (x72 == x72 && (x74 == x74 && (x76 == x76 && (x78 == x78 && (x80 == x80 && (x81 == x81 && true))))))))))))))))))))))))))) && true))))
   (.leaf none))

noncomputable def lMFin (c : TC) (s : Int) (g : List Int) (l : Bool × Bool × Bool × Bool × Bool × Bool × Bool × Bool × Bool) (n : List Int) (op : Int) : Bool := getO lMFinRs.dflt (lMFinT c s g l n op).val

noncomputable def lMFinC (c : TC) (s : Int) (g : List Int) (l : Bool × Bool × Bool × Bool × Bool × Bool × Bool × Bool × Bool) (n : List Int) (op : Int) : Bool := okB (lMFinT c s g l n op).val

noncomputable def lMFinE : Entry := pureE lMFinTs lMFinRs (fun a => some (lMFinC a.1 a.2.1 a.2.2.1 a.2.2.2.1 a.2.2.2.2.1 a.2.2.2.2.2)) (fun a => lMFin a.1 a.2.1 a.2.2.1 a.2.2.2.1 a.2.2.2.2.1 a.2.2.2.2.2)

theorem lMFin_ok : EntryOk Tryz.prog 4 lMFinE :=
  pure_part (P := Tryz.prog) (n := 65535) (k := 8) (l := [(5, kKnownE), (8, kOperateE), (9, pFinE), (10, rFinE)]) (ol := []) ⟨kKnown_ok, kOperate_ok, pFin_ok, rFin_ok, trivial⟩ Tryz.func4 rfl (by kernel_rfl) Tryz.call4 trivial (ts := lMFinTs) (rs := lMFinRs) (t := fun a => lMFinT a.1 a.2.1 a.2.2.1 a.2.2.2.1 a.2.2.2.2.1 a.2.2.2.2.2) (fun a => by kernel_rfl)

end
end Go.Proofs.YtiflfdlglncjlaaGreat
