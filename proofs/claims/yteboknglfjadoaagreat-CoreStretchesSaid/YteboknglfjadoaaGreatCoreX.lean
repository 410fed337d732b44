/-
  One clock state of a processor, as a plain function. Conditions: none (definitions).
-/
import Derived.Test.YteboknglfjadoaaGreatCoreEq
import Derived.Test.YteboknglfjadoaaGreatFinX
open Go Go.S3 Go.Proofs
set_option linter.unusedVariables false
set_option linter.unusedSimpArgs false
set_option maxRecDepth 100000
namespace Go.Proofs.YteboknglfjadoaaGreat
noncomputable section
abbrev LnT := Bool × Bool × Bool × Bool × Bool × Bool × Bool × Bool × Bool
abbrev CoreT := CpuT × Int × List Int × Cyc × Int × Bool
def stateX (n : Int) : Int := bif decide (n < 1) || decide (n > 9) then 1 else n
def beginX (c : CpuT) (s : Int) : CoreT := (c, s, [], (nextX c s []).1, 1, false)
def idlX (c : CpuT) (s : Int) (h : Bool) : Int := bif h then 8 else bif c.2.2.2.2.1 && s == 0 then 9 else 1
def endX (c : CpuT) (s : Int) (g : List Int) (h : Bool) (l : LnT) : CoreT :=
  bif (nextX c s g).2 then (c, s, g, (nextX c s g).1, idlX c s h, false) else
  let q := finX c s g l
  let k := rPick q l
  let d := rAccept q k
  (d, k, [], (nextX d k []).1, idlX d k h, false)
def readX (c : CpuT) (x : Cyc) (d : Int) : Cyc :=
  let v := bif rReads x.1 then d else x.2.2.1
  (x.1, x.2.1, v, bif x.1 == 1 || x.1 == 8 then rFirst c.1 v else x.2.2.2)
def le3 (x : Int) : Bool := decide (x ≤ 3)
def clockX (c : CoreT) (l : LnT) (d : Int) : CoreT :=
  let t := stateX c.2.2.2.2.1
  let p := rLatch c.1 l
  let s := c.2.1
  let g := c.2.2.1
  let x := c.2.2.2.1
  let h := c.2.2.2.2.2
  bif l.2.2.1 then beginX (rReset c.1) 0 else
  bif t == 1 then (p, s, g, x, 2, h) else
  bif t == 2 || t == 7 then (bif l.1 || !rAccepts x.1 then (p, s, g, x, 3, l.2.1) else (p, s, g, x, 7, h)) else
  bif t == 8 then (p, s, g, x, idlX p s l.2.1, h) else
  bif t == 9 then
    (let k := rPick p l
     bif k == 0 then (p, s, g, x, bif l.2.1 then 8 else 9, h) else
     (rAccept p k, k, [], (nextX (rAccept p k) k []).1, bif l.2.1 then 8 else 1, h)) else
  bif t == 3 then
    (let y := readX p x d
     bif le3 y.2.2.2 then endX p s (g ++ [y.2.2.1]) h l else (p, s, g ++ [y.2.2.1], y, 4, h)) else
  bif decide (t < x.2.2.2) && !(t == 6) then (p, s, g, x, t + 1, h) else endX p s g h l
end
end Go.Proofs.YteboknglfjadoaaGreat
