/-
  The state behind an instruction, as a plain Lean function. Conditions: none (definitions).
-/
import Derived.Test.YteboknglfjadoaaGreatPlan
open Go Go.S3 Go.Proofs
set_option linter.unusedVariables false
set_option linter.unusedSimpArgs false
set_option maxRecDepth 100000
namespace Go.Proofs.YteboknglfjadoaaGreat
noncomputable section
def wPC (r : RegT) (v : Int) : RegT := (r.1, r.2.1, r.2.2.1, r.2.2.2.1, r.2.2.2.2.1, r.2.2.2.2.2.1, r.2.2.2.2.2.2.1, r.2.2.2.2.2.2.2.1, r.2.2.2.2.2.2.2.2.1, v)
def wSP (r : RegT) (v : Int) : RegT := (r.1, r.2.1, r.2.2.1, r.2.2.2.1, r.2.2.2.2.1, r.2.2.2.2.2.1, r.2.2.2.2.2.2.1, r.2.2.2.2.2.2.2.1, v, r.2.2.2.2.2.2.2.2.2)
def wA (r : RegT) (v : Int) : RegT := (v, r.2)
def wF (r : RegT) (f : FlgT) : RegT := (r.1, r.2.1, r.2.2.1, r.2.2.2.1, r.2.2.2.2.1, r.2.2.2.2.2.1, r.2.2.2.2.2.2.1, f, r.2.2.2.2.2.2.2.2)
def fCY (f : FlgT) (b : Bool) : FlgT := (f.1, f.2.1, f.2.2.1, f.2.2.2.1, f.2.2.2.2.1, f.2.2.2.2.2.1, b)
def fVCY (f : FlgT) (v b : Bool) : FlgT := (f.1, f.2.1, f.2.2.1, f.2.2.2.1, f.2.2.2.2.1, v, b)
def spOfR (r : RegT) : Int := r.2.2.2.2.2.2.2.2.1
def flOf (r : RegT) : FlgT := r.2.2.2.2.2.2.2.1
/-- The registers behind it; r: those before it, r0: these with the next PC. -/
def finR (c : CpuT) (r r0 : RegT) (g : List Int) (i : InsT) : RegT :=
  let dst := i.2.2.1
  let src := i.2.2.2.1
  let pr := i.2.2.2.2.1
  let op := i.2.2.2.2.2.1
  let g1 := g.getD 1 0
  let tk := rHolds i.2.2.2.2.2.2.1 (flOf r)
  bif i.1 == 2 then rSet r0 dst (bif src == 6 then g1 else rGet r src) else
  bif i.1 == 3 then rSet r0 dst g1 else
  bif i.1 == 4 then rSetPair r0 pr (joinX g 1) else
  bif i.1 == 5 then wA r0 (g.getD 3 0) else
  bif i.1 == 7 then rSetPair r0 2 (joinX g 3) else
  bif i.1 == 9 then wA r0 g1 else
  bif i.1 == 11 then (r0.1, r0.2.1, r0.2.2.1, r0.2.2.2.2.2.1, r0.2.2.2.2.2.2.1, r0.2.2.2.1, r0.2.2.2.2.1, r0.2.2.2.2.2.2.2) else
  bif i.1 == 12 then (let q := rDo c.1 op r.1 (bif src == 6 then g1 else rGet r src) (flOf r); wA (wF r0 q.2) q.1) else
  bif i.1 == 13 then (let q := rDo c.1 op r.1 g1 (flOf r); wA (wF r0 q.2) q.1) else
  bif i.1 == 14 then (let q := rInr c.1 (bif dst == 6 then g1 else rGet r dst) (flOf r); rSet (wF r0 q.2) dst q.1) else
  bif i.1 == 15 then (let q := rDcr c.1 (bif dst == 6 then g1 else rGet r dst) (flOf r); rSet (wF r0 q.2) dst q.1) else
  bif i.1 == 16 then (let q := rInx c.1 (rPair r pr) (flOf r); rSetPair (wF r0 q.2) pr q.1) else
  bif i.1 == 17 then (let q := rDcx c.1 (rPair r pr) (flOf r); rSetPair (wF r0 q.2) pr q.1) else
  bif i.1 == 18 then (let q := rDad c.1 (rPair r 2) (rPair r pr) (flOf r); rSetPair (wF r0 q.2) 2 q.1) else
  bif i.1 == 19 then (let q := rDaa c.1 r.1 (flOf r); wA (wF r0 q.2) q.1) else
  bif i.1 == 20 then wA r0 (notI .u8 r.1) else
  bif i.1 == 21 then wF r0 (fCY (flOf r) true) else
  bif i.1 == 22 then wF r0 (fCY (flOf r) (!(flOf r).2.2.2.2.2.2)) else
  bif i.1 == 23 then (let q := rRot op r.1 (flOf r).2.2.2.2.2.2; wA (wF r0 (fCY (flOf r) q.2)) q.1) else
  bif i.1 == 24 then (bif tk then wPC r0 (joinX g 1) else r0) else
  bif i.1 == 25 then (bif tk then wPC (wSP r0 (IntKind.wrap .u16 (spOfR r - 2))) (joinX g 1) else r0) else
  bif i.1 == 26 then (bif tk then wPC (wSP r0 (IntKind.wrap .u16 (spOfR r + 2))) (joinX g 1) else r0) else
  bif i.1 == 27 then wPC (wSP r0 (IntKind.wrap .u16 (spOfR r - 2))) (IntKind.wrap .u16 (IntKind.wrap .i64 (8 * i.2.2.2.2.2.2.2))) else
  bif i.1 == 28 then wPC r0 (rPair r 2) else
  bif i.1 == 29 then wSP r0 (rPair r 2) else
  bif i.1 == 30 then wSP r0 (IntKind.wrap .u16 (spOfR r - 2)) else
  bif i.1 == 31 then (let q := bif pr == 3 then rSetPSW c.1 r0 (joinX g 1) else rSetPair r0 pr (joinX g 1); wSP q (IntKind.wrap .u16 (spOfR q + 2))) else
  bif i.1 == 32 then rSetPair r0 2 (joinX g 1) else
  bif i.1 == 33 then wA r0 (g.getD 2 0) else
  bif i.1 == 40 then (let q := rDsub (rPair r 2) (rPair r 0); rSetPair (wF r0 q.2) 2 q.1) else
  bif i.1 == 41 then (let q := rArhl (rPair r 2); rSetPair (wF r0 (fCY (flOf r) q.2)) 2 q.1) else
  bif i.1 == 42 then (let q := rRdel (rPair r 1) (flOf r).2.2.2.2.2.2; rSetPair (wF r0 (fVCY (flOf r) q.2.2 q.2.1)) 1 q.1) else
  bif i.1 == 43 then rSetPair r0 1 (IntKind.wrap .u16 (rPair r 2 + IntKind.wrap .u16 g1)) else
  bif i.1 == 44 then rSetPair r0 1 (IntKind.wrap .u16 (spOfR r + IntKind.wrap .u16 g1)) else
  bif i.1 == 45 then (bif tk then wPC (wSP r0 (IntKind.wrap .u16 (spOfR r - 2))) 64 else r0) else
  bif i.1 == 47 then rSetPair r0 2 (joinX g 1) else
  r0
/-- The state behind an instruction from memory or an injected one. -/
def finI (c : CpuT) (inj : Bool) (g : List Int) (l : Bool × Bool × Bool × Bool × Bool × Bool × Bool × Bool × Bool) (i : InsT) : CpuT :=
  let r0 := wPC c.2.1 (behindX c inj i)
  let d : CpuT := (c.1, r0, c.2.2.1, false, false, c.2.2.2.2.2)
  bif i.1 == 38 then (let q := rRim d l; (q.2.1, wA q.2.2.1 q.1, q.2.2.2)) else
  bif i.1 == 39 then rSim d c.2.1.1 else
  (c.1, finR c c.2.1 r0 g i, bif i.1 == 35 then true else bif i.1 == 36 then false else c.2.2.1, i.1 == 35, i.1 == 37, c.2.2.2.2.2)
def finX (c : CpuT) (s : Int) (g : List Int) (l : Bool × Bool × Bool × Bool × Bool × Bool × Bool × Bool × Bool) : CpuT :=
  bif rInternal s then (c.1, wPC (wSP c.2.1 (IntKind.wrap .u16 (spOf c - 2))) (rVector s), c.2.2)
  else finI c (s == 5) g l (rDecode c.1 (g.getD 0 0))
theorem rim_eq (c : CpuT) (l) : (rRim c l).2 = (c.1, c.2.1, c.2.2.1, c.2.2.2.1, c.2.2.2.2.1, c.2.2.2.2.2.1, c.2.2.2.2.2.2.1, c.2.2.2.2.2.2.2.1, c.2.2.2.2.2.2.2.2.1, c.2.2.2.2.2.2.2.2.2.1, false, false, c.2.2.2.2.2.2.2.2.2.2.2.2) := by
  have h3 : ∀ b, rBit14C b 3 = true := fun b => by cases b <;> rfl
  have h4 : ∀ b, rBit14C b 4 = true := fun b => by cases b <;> rfl
  have h5 : ∀ b, rBit14C b 5 = true := fun b => by cases b <;> rfl
  have h6 : ∀ b, rBit14C b 6 = true := fun b => by cases b <;> rfl
  have h7 : ∀ b, rBit14C b 7 = true := fun b => by cases b <;> rfl
  simp only [rRim, rRimT, RT.val, h3, h4, h5, h6, h7, Bool.not_true, Bool.false_or, cond_true, getO]
theorem qOp_eq (s) : qOperandC s = true ∧ qOperand s = bif (s.2.2.2.1.1 == 13 || s.2.2.2.1.2.2.2.1 == 6) then s.2.2.1.getD 1 0 else rGet s.1.2.1 s.2.2.2.1.2.2.2.1 := by
  simp only [qOperandC, qOperand, qOperandT, RT.val, qat1, qReg_eq]
  cases (s.2.2.2.1.1 == 13 || s.2.2.2.1.2.2.2.1 == 6) <;> simp [okB, getO]
end
end Go.Proofs.YteboknglfjadoaaGreat
