/-
  The machine cycles of an instruction, as plain Lean functions. Conditions: none (definitions).
-/
import Derived.Test.YteboknglfjadoaaGreatNextEq0
open Go Go.S3 Go.Proofs
set_option linter.unusedVariables false
set_option linter.unusedSimpArgs false
set_option maxRecDepth 100000
namespace Go.Proofs.YteboknglfjadoaaGreat
noncomputable section
abbrev FlgT := Bool × Bool × Bool × Bool × Bool × Bool × Bool
abbrev RegT := Int × Int × Int × Int × Int × Int × Int × FlgT × Int × Int
abbrev CpuT := Int × RegT × Bool × Bool × Bool × Int × Bool × Bool × Bool × Bool × Bool × Bool × Bool
abbrev InsT := Int × Int × Int × Int × Int × Int × Int × Int
def opC (c : CpuT) (inj : Bool) (k : Int) : Cyc := bif inj then (9, pcOf c, 0, 3) else (2, IntKind.wrap .u16 (pcOf c + IntKind.wrap .u16 k), 0, 3)
def pushX (c : CpuT) (w : Int) : List Cyc := [(5, IntKind.wrap .u16 (spOf c - 1), IntKind.wrap .u8 (shrI .u16 w 8), 3), (5, IntKind.wrap .u16 (spOf c - 2), IntKind.wrap .u8 w, 3)]
def popX (c : CpuT) : List Cyc := [(4, spOf c, 0, 3), (4, IntKind.wrap .u16 (spOf c + 1), 0, 3)]
def behindX (c : CpuT) (inj : Bool) (i : InsT) : Int := bif inj then pcOf c else IntKind.wrap .u16 (pcOf c + IntKind.wrap .u16 i.2.1)
def takenX (c : CpuT) (i : InsT) : Bool := rHolds i.2.2.2.2.2.2.1 c.2.1.2.2.2.2.2.2.2.1
def readW (a : Int) : List Cyc := [(2, a, 0, 3), (2, IntKind.wrap .u16 (a + 1), 0, 3)]
def writeW (c : CpuT) (a : Int) : List Cyc := [(3, a, c.2.1.2.2.2.2.2.2.1, 3), (3, IntKind.wrap .u16 (a + 1), c.2.1.2.2.2.2.2.1, 3)]
def targetX (c : CpuT) (inj : Bool) (i : InsT) : List Cyc := bif c.1 == 2 && !takenX c i then [opC c inj 1] else [opC c inj 1, opC c inj 2]
def joinX (g : List Int) (n : Nat) : Int := rJoin (g.getD (n + 1) 0) (g.getD n 0)
def idleX (c : CpuT) : Cyc := (11, pcOf c, 0, 3)
def countX (c : CpuT) (i : InsT) (v : Int) : Int := bif i.1 == 14 then (rInr c.1 v c.2.1.2.2.2.2.2.2.2.1).1 else (rDcr c.1 v c.2.1.2.2.2.2.2.2.2.1).1
/-- The cycles behind the first one. -/
def bodyX (c : CpuT) (inj : Bool) (g : List Int) (i : InsT) : List Cyc :=
  let hl := rPair c.2.1 2
  let dst := i.2.2.1
  let src := i.2.2.2.1
  let pr := i.2.2.2.2.1
  bif i.1 == 2 then (bif src == 6 then [(2, hl, 0, 3)] else bif dst == 6 then [(3, hl, rGet c.2.1 src, 3)] else []) else
  bif i.1 == 3 then opC c inj 1 :: (bif dst == 6 then [(3, hl, g.getD 1 0, 3)] else []) else
  bif i.1 == 4 then [opC c inj 1, opC c inj 2] else
  bif i.1 == 5 then [opC c inj 1, opC c inj 2, (2, joinX g 1, 0, 3)] else
  bif i.1 == 6 then [opC c inj 1, opC c inj 2, (3, joinX g 1, c.2.1.1, 3)] else
  bif i.1 == 7 then opC c inj 1 :: opC c inj 2 :: readW (joinX g 1) else
  bif i.1 == 8 then opC c inj 1 :: opC c inj 2 :: writeW c (joinX g 1) else
  bif i.1 == 9 then [(2, rPair c.2.1 pr, 0, 3)] else
  bif i.1 == 10 then [(3, rPair c.2.1 pr, c.2.1.1, 3)] else
  bif i.1 == 12 then (bif src == 6 then [(2, hl, 0, 3)] else []) else
  bif i.1 == 13 then [opC c inj 1] else
  bif i.1 == 14 || i.1 == 15 then (bif dst == 6 then [(2, hl, 0, 3), (3, hl, countX c i (g.getD 1 0), 3)] else []) else
  bif i.1 == 18 || i.1 == 40 || i.1 == 42 then [idleX c, idleX c] else
  bif i.1 == 24 then targetX c inj i else
  bif i.1 == 25 then targetX c inj i ++ (bif takenX c i then pushX c (behindX c inj i) else []) else
  bif i.1 == 26 then (bif takenX c i then popX c else []) else
  bif i.1 == 27 then pushX c (behindX c inj i) else
  bif i.1 == 45 then (bif takenX c i then pushX c (behindX c inj i) else []) else
  bif i.1 == 30 then pushX c (bif pr == 3 then rPSW c.1 c.2.1 else rPair c.2.1 pr) else
  bif i.1 == 31 then popX c else
  bif i.1 == 32 then popX c ++ [(5, IntKind.wrap .u16 (spOf c + 1), c.2.1.2.2.2.2.2.1, 3), (5, spOf c, c.2.1.2.2.2.2.2.2.1, bif c.1 == 2 then 3 else 5)] else
  bif i.1 == 33 then [opC c inj 1, (6, rJoin (g.getD 1 0) (g.getD 1 0), 0, 3)] else
  bif i.1 == 34 then [opC c inj 1, (7, rJoin (g.getD 1 0) (g.getD 1 0), c.2.1.1, 3)] else
  bif i.1 == 37 then (bif c.1 == 2 then [] else [(10, pcOf c, 0, 3)]) else
  bif i.1 == 41 then [idleX c] else
  bif i.1 == 43 || i.1 == 44 then [opC c inj 1, idleX c] else
  bif i.1 == 46 then writeW c (rPair c.2.1 1) else
  bif i.1 == 47 then readW (rPair c.2.1 1) else
  []
/-- All cycles, as far as g tells the instruction. -/
def planX (c : CpuT) (s : Int) (g : List Int) : List Cyc :=
  bif rInternal s then (12, pcOf c, 0, 6) :: pushX c (pcOf c)
  else (bif s == 5 then 8 else 1, pcOf c, 0, 4) :: match g with
    | [] => []
    | o :: _ => bodyX c (s == 5) g (rDecode c.1 o)
/-- The cycle that follows g.length completed ones, and whether there is one. -/
def nextX (c : CpuT) (s : Int) (g : List Int) : Cyc × Bool := pick (planX c s g) g.length
def sk (x : Cyc) : Cyc := (x.1, 0, 0, x.2.2.2)
theorem map_cond (b : Bool) (x y : List Cyc) : (bif b then x else y).map sk = bif b then x.map sk else y.map sk := by cases b <;> rfl
theorem sk_op (c : CpuT) (inj : Bool) (k : Int) : sk (opC c inj k) = bif inj then (9, 0, 0, 3) else (2, 0, 0, 3) := by cases inj <;> rfl
/-- The kinds and states of the cycles hang on the chip, on the condition, and on the instruction. -/
theorem sk_body (c c' : CpuT) (inj : Bool) (g g' : List Int) (i : InsT) (h1 : (c.1 == 2) = (c'.1 == 2)) (h2 : takenX c i = takenX c' i) :
    (bodyX c inj g i).map sk = (bodyX c' inj g' i).map sk := by
  simp only [bodyX, targetX, map_cond, List.map_cons, List.map_nil, List.map_append, sk_op, readW, writeW, pushX, popX, idleX, h1, h2]
  rfl
end
end Go.Proofs.YteboknglfjadoaaGreat
