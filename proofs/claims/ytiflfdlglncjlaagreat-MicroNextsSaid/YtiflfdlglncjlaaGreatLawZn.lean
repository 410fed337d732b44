/-
  Contracts of functions; each found by the symbolic executor and checked by the kernel. Conditions: none.
-/
import Derived.Test.YtiflfdlglncjlaaGreatS3D
import Derived.Test.YtiflfdlglncjlaaGreatProg
import Derived.Test.YtiflfdlglncjlaaGreatLawZo
import Derived.Test.YtiflfdlglncjlaaGreatKnownN
import Derived.Test.YtiflfdlglncjlaaGreatNextAll
set_option linter.unusedSimpArgs false
open Go Go.S3 Go.Proofs
set_option linter.unusedVariables false
set_option maxRecDepth 100000
namespace Go.Proofs.YtiflfdlglncjlaaGreat
noncomputable section
abbrev lMNextsTs : List Sh := [Sh.agg (R.pair (R.int IntKind.i64) (R.pair (R.pair (R.int IntKind.u8) (R.pair (R.int IntKind.u8) (R.pair (R.int IntKind.u8) (R.pair (R.int IntKind.u8) (R.pair (R.int IntKind.u8) (R.pair (R.int IntKind.u8) (R.pair (R.int IntKind.u8) (R.pair (R.pair R.bool (R.pair R.bool (R.pair R.bool (R.pair R.bool (R.pair R.bool (R.pair R.bool R.bool)))))) (R.pair (R.int IntKind.u16) (R.int IntKind.u16)))))))))) (R.pair R.bool (R.pair R.bool (R.pair R.bool (R.pair (R.int IntKind.u8) (R.pair R.bool (R.pair R.bool (R.pair R.bool (R.pair R.bool (R.pair R.bool (R.pair R.bool R.bool)))))))))))), Sh.one (R.int IntKind.i64), Sh.one (R.sl (R.int IntKind.u8)), Sh.one (R.sl (R.int IntKind.i64)), Sh.one (R.int IntKind.u8)]

abbrev lMNextsRs : Rs := Rs.one (Sh.one R.bool)

noncomputable def lMNextsT (c : TC) (s : Int) (g : List Int) (n : List Int) (op : Int) : RT (Option (Bool)) :=
  let x1 : TY × Bool := nextX (kOperate n op).1 (kOperate n op).2.1 (subL (kOperate n op).2.2 0 0)
  let x2 : Int × Int × Int × Int := x1.1
  let x3 : Int := x2.1
  let x4 : Int × Int × Int := x2.2
  let x5 : Int := x4.1
  let x6 : Int × Int := x4.2
  let x7 : Int := x6.1
  let x8 : Int := x6.2
  let x9 : Bool := x1.2
  let x10 : Bool := !(x3 == x3 && (x5 == x5 && (x7 == x7 && (x8 == x8 && true)))) || !x9 == x9
  let x11 : Bool := decide (IntKind.i64.wrap (0 + 1) ≤ iN (List.length (kOperate n op).2.2))
  let x12 : Bool := !x11
  let x13 : Bool := decide (0 ≤ 0) && decide (0 ≤ IntKind.i64.wrap (0 + 1)) && (decide (IntKind.i64.wrap (0 + 1) = 0) || decide (IntKind.i64.wrap (0 + 1) ≤ iN (List.length (kOperate n op).2.2)))
  let x14 : Bool := !x13
  let x15 : Bool := x14 || x13
  let x16 : Bool := !x15
  let x17 : TY × Bool := nextX (kOperate n op).1 (kOperate n op).2.1 (subL (kOperate n op).2.2 0 (IntKind.i64.wrap (0 + 1)))
  let x18 : Int × Int × Int × Int := x17.1
  let x19 : Int := x18.1
  let x20 : Int × Int × Int := x18.2
  let x21 : Int := x20.1
  let x22 : Int × Int := x20.2
  let x23 : Int := x22.1
  let x24 : Int := x22.2
  let x25 : Bool := x17.2
  let x26 : Bool := !(x19 == x19 && (x21 == x21 && (x23 == x23 && (x24 == x24 && true)))) || !x25 == x25
  let x27 : Bool := decide (IntKind.i64.wrap (IntKind.i64.wrap (0 + 1) + 1) ≤ iN (List.length (kOperate n op).2.2))
  let x28 : Bool := !x27
  let x29 : Bool := decide (0 ≤ 0) && decide (0 ≤ IntKind.i64.wrap (IntKind.i64.wrap (0 + 1) + 1)) && (decide (IntKind.i64.wrap (IntKind.i64.wrap (0 + 1) + 1) = 0) || decide (IntKind.i64.wrap (IntKind.i64.wrap (0 + 1) + 1) ≤ iN (List.length (kOperate n op).2.2)))
  let x30 : Bool := !x29
  let x31 : Bool := x30 || x29
  let x32 : Bool := !x31
  let x33 : TY × Bool := nextX (kOperate n op).1 (kOperate n op).2.1 (subL (kOperate n op).2.2 0 (IntKind.i64.wrap (IntKind.i64.wrap (0 + 1) + 1)))
  let x34 : Int × Int × Int × Int := x33.1
  let x35 : Int := x34.1
  let x36 : Int × Int × Int := x34.2
  let x37 : Int := x36.1
  let x38 : Int × Int := x36.2
  let x39 : Int := x38.1
  let x40 : Int := x38.2
  let x41 : Bool := x33.2
  let x42 : Bool := !(x35 == x35 && (x37 == x37 && (x39 == x39 && (x40 == x40 && true)))) || !x41 == x41
  let x43 : Bool := decide (IntKind.i64.wrap (IntKind.i64.wrap (IntKind.i64.wrap (0 + 1) + 1) + 1) ≤ iN (List.length (kOperate n op).2.2))
  let x44 : Bool := !x43
  let x45 : Bool := decide (0 ≤ 0) && decide (0 ≤ IntKind.i64.wrap (IntKind.i64.wrap (IntKind.i64.wrap (0 + 1) + 1) + 1)) && (decide (IntKind.i64.wrap (IntKind.i64.wrap (IntKind.i64.wrap (0 + 1) + 1) + 1) = 0) || decide (IntKind.i64.wrap (IntKind.i64.wrap (IntKind.i64.wrap (0 + 1) + 1) + 1) ≤ iN (List.length (kOperate n op).2.2)))
  let x46 : Bool := !x45
  let x47 : Bool := x46 || x45
  let x48 : Bool := !x47
  let x49 : TY × Bool := nextX (kOperate n op).1 (kOperate n op).2.1 (subL (kOperate n op).2.2 0 (IntKind.i64.wrap (IntKind.i64.wrap (IntKind.i64.wrap (0 + 1) + 1) + 1)))
  let x50 : Int × Int × Int × Int := x49.1
  let x51 : Int := x50.1
  let x52 : Int × Int × Int := x50.2
  let x53 : Int := x52.1
  let x54 : Int × Int := x52.2
  let x55 : Int := x54.1
  let x56 : Int := x54.2
  let x57 : Bool := x49.2
  let x58 : Bool := !(x51 == x51 && (x53 == x53 && (x55 == x55 && (x56 == x56 && true)))) || !x57 == x57
  let x59 : Int := IntKind.i64.wrap (IntKind.i64.wrap (IntKind.i64.wrap (IntKind.i64.wrap (0 + 1) + 1) + 1) + 1)
  let x60 : Bool := decide (x59 ≤ iN (List.length (kOperate n op).2.2))
  let x61 : Bool := !x60
  let x62 : Bool := decide (0 ≤ 0) && decide (0 ≤ x59) && (decide (x59 = 0) || decide (x59 ≤ iN (List.length (kOperate n op).2.2)))
  let x63 : Bool := !x62
  let x64 : Bool := x63 || x62
  let x65 : Bool := !x64
  let x66 : TY × Bool := nextX (kOperate n op).1 (kOperate n op).2.1 (subL (kOperate n op).2.2 0 x59)
  let x67 : Int × Int × Int × Int := x66.1
  let x68 : Int := x67.1
  let x69 : Int × Int × Int := x67.2
  let x70 : Int := x69.1
  let x71 : Int × Int := x69.2
  let x72 : Int := x71.1
  let x73 : Int := x71.2
  let x74 : Bool := x66.2
  let x75 : Bool := !(x68 == x68 && (x70 == x70 && (x72 == x72 && (x73 == x73 && true)))) || !x74 == x74
  let x76 : Int := IntKind.i64.wrap (x59 + 1)
  let x77 : Bool := decide (x76 ≤ iN (List.length (kOperate n op).2.2))
  let x78 : Bool := !x77
  let x79 : Bool := decide (0 ≤ 0) && decide (0 ≤ x76) && (decide (x76 = 0) || decide (x76 ≤ iN (List.length (kOperate n op).2.2)))
  let x80 : Bool := !x79
  let x81 : Bool := x80 || x79
  let x82 : Bool := !x81
  let x83 : TY × Bool := nextX (kOperate n op).1 (kOperate n op).2.1 (subL (kOperate n op).2.2 0 x76)
  let x84 : Int × Int × Int × Int := x83.1
  let x85 : Int := x84.1
  let x86 : Int × Int × Int := x84.2
  let x87 : Int := x86.1
  let x88 : Int × Int := x86.2
  let x89 : Int := x88.1
  let x90 : Int := x88.2
  let x91 : Bool := x83.2
  let x92 : Bool := !(x85 == x85 && (x87 == x87 && (x89 == x89 && (x90 == x90 && true)))) || !x91 == x91
  let x93 : Int := IntKind.i64.wrap (x76 + 1)
  let x94 : Bool := decide (x93 ≤ iN (List.length (kOperate n op).2.2))
  let x95 : Bool := !x94
  let x96 : Bool := decide (0 ≤ 0) && decide (0 ≤ x93) && (decide (x93 = 0) || decide (x93 ≤ iN (List.length (kOperate n op).2.2)))
  let x97 : Bool := !x96
  let x98 : Bool := x97 || x96
  let x99 : Bool := !x98
  let x100 : TY × Bool := nextX (kOperate n op).1 (kOperate n op).2.1 (subL (kOperate n op).2.2 0 x93)
  let x101 : Int × Int × Int × Int := x100.1
  let x102 : Int := x101.1
  let x103 : Int × Int × Int := x101.2
  let x104 : Int := x103.1
  let x105 : Int × Int := x103.2
  let x106 : Int := x105.1
  let x107 : Int := x105.2
  let x108 : Bool := x100.2
  let x109 : Bool := !(x102 == x102 && (x104 == x104 && (x106 == x106 && (x107 == x107 && true)))) || !x108 == x108
  let x110 : Int := IntKind.i64.wrap (x93 + 1)
  let x111 : Bool := decide (x110 ≤ iN (List.length (kOperate n op).2.2))
  let x112 : Bool := !x111
  let x113 : Bool := decide (0 ≤ 0) && decide (0 ≤ x110) && (decide (x110 = 0) || decide (x110 ≤ iN (List.length (kOperate n op).2.2)))
  let x114 : Bool := !x113
  let x115 : Bool := x114 || x113
  let x116 : Bool := !x115
  let x117 : TY × Bool := nextX (kOperate n op).1 (kOperate n op).2.1 (subL (kOperate n op).2.2 0 x110)
  let x118 : Int × Int × Int × Int := x117.1
  let x119 : Int := x118.1
  let x120 : Int × Int × Int := x118.2
  let x121 : Int := x120.1
  let x122 : Int × Int := x120.2
  let x123 : Int := x122.1
  let x124 : Int := x122.2
  let x125 : Bool := x117.2
  let x126 : Bool := !(x119 == x119 && (x121 == x121 && (x123 == x123 && (x124 == x124 && true)))) || !x125 == x125
  let x127 : Int := IntKind.i64.wrap (x110 + 1)
  let x128 : Bool := decide (x127 ≤ iN (List.length (kOperate n op).2.2))
  let x129 : Bool := !x128
  let x130 : Bool := decide (0 ≤ 0) && decide (0 ≤ x127) && (decide (x127 = 0) || decide (x127 ≤ iN (List.length (kOperate n op).2.2)))
  let x131 : Bool := !x130
  let x132 : Bool := x131 || x130
  let x133 : Bool := !x132
  let x134 : TY × Bool := nextX (kOperate n op).1 (kOperate n op).2.1 (subL (kOperate n op).2.2 0 x127)
  let x135 : Int × Int × Int × Int := x134.1
  let x136 : Int := x135.1
  let x137 : Int × Int × Int := x135.2
  let x138 : Int := x137.1
  let x139 : Int × Int := x137.2
  let x140 : Int := x139.1
  let x141 : Int := x139.2
  let x142 : Bool := x134.2
  let x143 : Bool := !(x136 == x136 && (x138 == x138 && (x140 == x140 && (x141 == x141 && true)))) || !x142 == x142
  let x144 : Int := IntKind.i64.wrap (x127 + 1)
  let x145 : Bool := decide (x144 ≤ iN (List.length (kOperate n op).2.2))
  let x146 : Bool := !x145
  let x147 : Bool := decide (0 ≤ 0) && decide (0 ≤ x144) && (decide (x144 = 0) || decide (x144 ≤ iN (List.length (kOperate n op).2.2)))
  let x148 : Bool := !x147
  let x149 : Bool := x148 || x147
  let x150 : Bool := !x149
  let x151 : TY × Bool := nextX (kOperate n op).1 (kOperate n op).2.1 (subL (kOperate n op).2.2 0 x144)
  let x152 : Int × Int × Int × Int := x151.1
  let x153 : Int := x152.1
  let x154 : Int × Int × Int := x152.2
  let x155 : Int := x154.1
  let x156 : Int × Int := x154.2
  let x157 : Int := x156.1
  let x158 : Int := x156.2
  let x159 : Bool := x151.2
  .br (decide (iN (List.length g) > 40) || decide (iN (List.length n) > 80))
  (.leaf (some (true)))
  (.br (!((nextX c s g).1.1 == (nextX c s g).1.1 && ((nextX c s g).1.2.1 == (nextX c s g).1.2.1 && ((nextX c s g).1.2.2.1 == (nextX c s g).1.2.2.1 && ((nextX c s g).1.2.2.2 == (nextX c s g).1.2.2.2 && true)))) || !(nextX c s g).2 == (nextX c s g).2)
   (.leaf (some (false)))
   (.br (kOperateC n op)
    (.br (!decide (0 ≤ iN (List.length (kOperate n op).2.2)) || (x10 || (x12 || (x16 || (x14 || (x26 || (x28 || (x32 || (x30 || (x42 || (x44 || (x48 || (x46 || (x58 || (x61 || (x65 || (x63 || (x75 || (x78 || (x82 || (x80 || (x92 || (x95 || (x99 || (x97 || (x109 || (x112 || (x116 || (x114 || (x126 || (x129 || (x133 || (x131 || (x143 || (x146 || (x150 || (x148 || (!(x153 == x153 && (x155 == x155 && (x157 == x157 && (x158 == x158 && true)))) || !x159 == x159))))))))))))))))))))))))))))))))))))))
     (.br (!decide (0 ≤ iN (List.length (kOperate n op).2.2)) || (x10 || (x12 || (x16 || (x14 || (x26 || (x28 || (x32 || (x30 || (x42 || (x44 || (x48 || (x46 || (x58 || (x61 || (x65 || (x63 || (x75 || (x78 || (x82 || (x80 || (x92 || (x95 || (x99 || (x97 || (x109 || (x112 || (x116 || (x114 || (x126 || (x129 || (x133 || (x131 || (x143 || (x146 || (x150 || x147))))))))))))))))))))))))))))))))))))
      (.br (!decide (0 ≤ iN (List.length (kOperate n op).2.2)) || (x10 || (x12 || (x16 || (x14 || (x26 || (x28 || (x32 || (x30 || (x42 || (x44 || (x48 || (x46 || (x58 || (x61 || (x65 || (x63 || (x75 || (x78 || (x82 || (x80 || (x92 || (x95 || (x99 || (x97 || (x109 || (x112 || (x116 || (x114 || (x126 || (x129 || (x133 || (x131 || (x143 || (x146 || x149)))))))))))))))))))))))))))))))))))
       (.br (!decide (0 ≤ iN (List.length (kOperate n op).2.2)) || (x10 || (x12 || (x16 || (x14 || (x26 || (x28 || (x32 || (x30 || (x42 || (x44 || (x48 || (x46 || (x58 || (x61 || (x65 || (x63 || (x75 || (x78 || (x82 || (x80 || (x92 || (x95 || (x99 || (x97 || (x109 || (x112 || (x116 || (x114 || (x126 || (x129 || (x133 || x130))))))))))))))))))))))))))))))))
        (.br (!decide (0 ≤ iN (List.length (kOperate n op).2.2)) || (x10 || (x12 || (x16 || (x14 || (x26 || (x28 || (x32 || (x30 || (x42 || (x44 || (x48 || (x46 || (x58 || (x61 || (x65 || (x63 || (x75 || (x78 || (x82 || (x80 || (x92 || (x95 || (x99 || (x97 || (x109 || (x112 || (x116 || (x114 || (x126 || (x129 || x132)))))))))))))))))))))))))))))))
         (.br (!decide (0 ≤ iN (List.length (kOperate n op).2.2)) || (x10 || (x12 || (x16 || (x14 || (x26 || (x28 || (x32 || (x30 || (x42 || (x44 || (x48 || (x46 || (x58 || (x61 || (x65 || (x63 || (x75 || (x78 || (x82 || (x80 || (x92 || (x95 || (x99 || (x97 || (x109 || (x112 || (x116 || x113))))))))))))))))))))))))))))
          (.br (!decide (0 ≤ iN (List.length (kOperate n op).2.2)) || (x10 || (x12 || (x16 || (x14 || (x26 || (x28 || (x32 || (x30 || (x42 || (x44 || (x48 || (x46 || (x58 || (x61 || (x65 || (x63 || (x75 || (x78 || (x82 || (x80 || (x92 || (x95 || (x99 || (x97 || (x109 || (x112 || x115)))))))))))))))))))))))))))
           (.br (!decide (0 ≤ iN (List.length (kOperate n op).2.2)) || (x10 || (x12 || (x16 || (x14 || (x26 || (x28 || (x32 || (x30 || (x42 || (x44 || (x48 || (x46 || (x58 || (x61 || (x65 || (x63 || (x75 || (x78 || (x82 || (x80 || (x92 || (x95 || (x99 || x96))))))))))))))))))))))))
            (.br (!decide (0 ≤ iN (List.length (kOperate n op).2.2)) || (x10 || (x12 || (x16 || (x14 || (x26 || (x28 || (x32 || (x30 || (x42 || (x44 || (x48 || (x46 || (x58 || (x61 || (x65 || (x63 || (x75 || (x78 || (x82 || (x80 || (x92 || (x95 || x98)))))))))))))))))))))))
             (.br (!decide (0 ≤ iN (List.length (kOperate n op).2.2)) || (x10 || (x12 || (x16 || (x14 || (x26 || (x28 || (x32 || (x30 || (x42 || (x44 || (x48 || (x46 || (x58 || (x61 || (x65 || (x63 || (x75 || (x78 || (x82 || x79))))))))))))))))))))
              (.br (!decide (0 ≤ iN (List.length (kOperate n op).2.2)) || (x10 || (x12 || (x16 || (x14 || (x26 || (x28 || (x32 || (x30 || (x42 || (x44 || (x48 || (x46 || (x58 || (x61 || (x65 || (x63 || (x75 || (x78 || x81)))))))))))))))))))
               (.br (!decide (0 ≤ iN (List.length (kOperate n op).2.2)) || (x10 || (x12 || (x16 || (x14 || (x26 || (x28 || (x32 || (x30 || (x42 || (x44 || (x48 || (x46 || (x58 || (x61 || (x65 || x62))))))))))))))))
                (.br (!decide (0 ≤ iN (List.length (kOperate n op).2.2)) || (x10 || (x12 || (x16 || (x14 || (x26 || (x28 || (x32 || (x30 || (x42 || (x44 || (x48 || (x46 || (x58 || (x61 || x64)))))))))))))))
                 (.br (!decide (0 ≤ iN (List.length (kOperate n op).2.2)) || (x10 || (x12 || (x16 || (x14 || (x26 || (x28 || (x32 || (x30 || (x42 || (x44 || (x48 || x45))))))))))))
                  (.br (!decide (0 ≤ iN (List.length (kOperate n op).2.2)) || (x10 || (x12 || (x16 || (x14 || (x26 || (x28 || (x32 || (x30 || (x42 || (x44 || x47)))))))))))
                   (.br (!decide (0 ≤ iN (List.length (kOperate n op).2.2)) || (x10 || (x12 || (x16 || (x14 || (x26 || (x28 || (x32 || x29))))))))
                    (.br (!decide (0 ≤ iN (List.length (kOperate n op).2.2)) || (x10 || (x12 || (x16 || (x14 || (x26 || (x28 || x31)))))))
                     (.br (!decide (0 ≤ iN (List.length (kOperate n op).2.2)) || (x10 || (x12 || (x16 || x13))))
                      (.br (!decide (0 ≤ iN (List.length (kOperate n op).2.2)) || (x10 || (x12 || x15)))
                       (.br (decide (0 ≤ iN (List.length (kOperate n op).2.2)))
                        (.br (x10)
                         (.leaf (some (false)))
                         (.br (x11)
                          (.br (x26)
                           (.leaf (some (false)))
                           (.br (x27)
                            (.br (x42)
                             (.leaf (some (false)))
                             (.br (x43)
                              (.br (x58)
                               (.leaf (some (false)))
                               (.br (x60)
                                (.br (x75)
                                 (.leaf (some (false)))
                                 (.br (x77)
                                  (.br (x92)
                                   (.leaf (some (false)))
                                   (.br (x94)
                                    (.br (x109)
                                     (.leaf (some (false)))
                                     (.br (x111)
                                      (.br (x126)
                                       (.leaf (some (false)))
                                       (.br (x128)
                                        (.br (x143)
                                         (.leaf (some (false)))
                                         (.br (x145)
                                          (.leaf (some (false)))
                                          (.leaf (some (true)))))
                                        (.leaf (some (true)))))
                                      (.leaf (some (true)))))
                                    (.leaf (some (true)))))
                                  (.leaf (some (true)))))
                                (.leaf (some (true)))))
                              (.leaf (some (true)))))
                            (.leaf (some (true)))))
                          (.leaf (some (true)))))
                        (.leaf (some (true))))
                       (.leaf none))
                      (.leaf none))
                     (.leaf none))
                    (.leaf none))
                   (.leaf none))
                  (.leaf none))
                 (.leaf none))
                (.leaf none))
               (.leaf none))
              (.leaf none))
             (.leaf none))
            (.leaf none))
           (.leaf none))
          (.leaf none))
         (.leaf none))
        (.leaf none))
       (.leaf none))
      (.leaf none))
     (.leaf none))
    (.leaf none)))

noncomputable def lMNexts (c : TC) (s : Int) (g : List Int) (n : List Int) (op : Int) : Bool := getO lMNextsRs.dflt (lMNextsT c s g n op).val

noncomputable def lMNextsC (c : TC) (s : Int) (g : List Int) (n : List Int) (op : Int) : Bool := okB (lMNextsT c s g n op).val

noncomputable def lMNextsE : Entry := pureE lMNextsTs lMNextsRs (fun a => some (lMNextsC a.1 a.2.1 a.2.2.1 a.2.2.2.1 a.2.2.2.2)) (fun a => lMNexts a.1 a.2.1 a.2.2.1 a.2.2.2.1 a.2.2.2.2)

theorem lMNexts_ok : EntryOk Tryz.prog 3 lMNextsE :=
  pure_part (P := Tryz.prog) (n := 524287) (k := 10) (l := [(5, kKnownNE), (6, pNextE), (7, rNextE), (8, kOperateE)]) (ol := []) ⟨kKnownN_ok, pNext_ok, rNext_ok, kOperate_ok, trivial⟩ Tryz.func3 rfl (by kernel_rfl) Tryz.call3 trivial (ts := lMNextsTs) (rs := lMNextsRs) (t := fun a => lMNextsT a.1 a.2.1 a.2.2.1 a.2.2.2.1 a.2.2.2.2) (fun a => by kernel_rfl)

end
end Go.Proofs.YtiflfdlglncjlaaGreat
