/-
  Memories: Load, Same and Find of the reference, the program's Valid and Find, Read and Write, as plain functions. Conditions: none.
-/
import Derived.Test.YtghoimllhpjkjaaGreatS3Ins
import Derived.Test.YtghoimllhpjkjaaGreatProg
import Derived.Shelf.Spec.SlicesInsertGrow
import Derived.Deep.RegionLaw
import Derived.Lib.SliceRun
import Derived.Test.YtghoimllhpjkjaaGreatS3D
import Derived.Test.YtghoimllhpjkjaaGreatS3Rows
import Derived.Test.YtghoimllhpjkjaaGreatS3Stg
import Derived.Test.YtghoimllhpjkjaaGreatS3Nil
set_option linter.unusedVariables false
set_option linter.unusedSimpArgs false
namespace Go.Proofs.YtghoimllhpjkjaaGreat
open Go Go.S3 Go.Proofs Go.Shelf Go.RowKit Go.Lib
noncomputable section
end
end Go.Proofs.YtghoimllhpjkjaaGreat
set_option linter.unusedVariables false
set_option linter.unusedSimpArgs false
namespace Go.Proofs.YtghoimllhpjkjaaGreat
open Go Go.S3 Go.Proofs Go.Shelf Go.RowKit Go.Lib
noncomputable section
end
end Go.Proofs.YtghoimllhpjkjaaGreat
set_option linter.unusedVariables false
set_option linter.unusedSimpArgs false
namespace Go.Proofs.Cells
abbrev Cell := Int × Int
def flt (k : Int) (l : List Cell) : List Cell := l.filter (fun c => c.1 == k)
def Srt (l : List Cell) : Prop := l.Pairwise (fun a b => a.1 ≤ b.1)
def Sm (l l' : List Cell) : Prop := ∀ k, flt k l = flt k l'
theorem Zjb (k : Int) (a b : List Cell) : flt k (a ++ b) = flt k a ++ flt k b := List.filter_append ..
theorem ZnV {k : Int} {l : List Cell} (h : ∀ c ∈ l, c.1 ≠ k) : flt k l = [] := by
 simp only [flt, List.filter_eq_nil_iff, beq_iff_eq]; exact h
theorem Sm.refl (l : List Cell) : Sm l l := fun _ => rfl
theorem Sm.symm {a b : List Cell} (h : Sm a b) : Sm b a := fun k => (h k).symm
theorem Sm.trans {a b c : List Cell} (h : Sm a b) (k : Sm b c) : Sm a c := fun i => (h i).trans (k i)
theorem Sm.app {a b c d : List Cell} (h : Sm a b) (k : Sm c d) : Sm (a ++ c) (b ++ d) := fun i => by rw [Zjb, Zjb, h i, k i]
theorem Sm.mem {a b : List Cell} (h : Sm a b) (x : Cell) : x ∈ a ↔ x ∈ b := by
 have e : ∀ l : List Cell, x ∈ l ↔ x ∈ flt x.1 l := fun l => by simp [flt]
 rw [e a, e b, h x.1]
theorem uniq : ∀ {l l' : List Cell}, Srt l → Srt l' → Sm l l' → l = l'
 | [], [], _, _, _ => rfl
 | [], y :: r, _, _, h => by have := h y.1; simp [flt] at this
 | x :: l, [], _, _, h => by have := h x.1; simp [flt] at this
 | x :: l, y :: r, hl, hr, h => by
  have h1 := List.pairwise_cons.1 hl
  have h2 := List.pairwise_cons.1 hr
  have hx : x ∈ y :: r := (h.mem x).1 (by simp)
  have hy : y ∈ x :: l := (h.mem y).2 (by simp)
  have e1 : y.1 ≤ x.1 := by
   rcases List.mem_cons.1 hx with e | e
   ·rw [e]; exact Int.le_refl _
   ·exact h2.1 x e
  have e2 : x.1 ≤ y.1 := by
   rcases List.mem_cons.1 hy with e | e
   ·rw [e]; exact Int.le_refl _
   ·exact h1.1 y e
  have e : x.1 = y.1 := Int.le_antisymm e2 e1
  have hxy := h x.1
  have k1 : flt x.1 (x :: l) = x :: flt x.1 l := by simp [flt]
  have k2 : flt x.1 (y :: r) = y :: flt x.1 r := by simp [flt, e]
  rw [k1, k2] at hxy
  obtain ⟨exy, _⟩ := List.cons.inj hxy
  subst exy
  have : l = r := uniq h1.2 h2.2 fun k => by
   have := h k
   by_cases hk : x.1 = k
   ·subst hk; simpa [flt] using this
   ·simpa [flt, hk] using this
  rw [this]
end Go.Proofs.Cells
set_option linter.unusedVariables false
set_option linter.unusedSimpArgs false
set_option maxRecDepth 100000
namespace Go.Proofs.YtghoimllhpjkjaaGreat
open Go Go.S3 Go.Proofs Go.Proofs.Cells
noncomputable section
end
end Go.Proofs.YtghoimllhpjkjaaGreat
set_option linter.unusedSimpArgs false
open Go Go.S3 Go.Proofs
set_option linter.unusedVariables false
set_option maxRecDepth 100000
namespace Go.Proofs.YtghoimllhpjkjaaGreat
noncomputable section
end
end Go.Proofs.YtghoimllhpjkjaaGreat
set_option linter.unusedVariables false
set_option linter.unusedSimpArgs false
open Go.S3
namespace Go.Proofs.Cells
end Go.Proofs.Cells
open Go.IntKind (u8 u16 i64)
open Go Go.S3 Go.Proofs Go.Proofs.Cells
set_option linter.unusedVariables false
set_option linter.unusedSimpArgs false
set_option maxRecDepth 100000
namespace Go.Proofs.YtghoimllhpjkjaaGreat
noncomputable section
theorem ml : (maxLen : Int) ≤ 9223372036854775807 := by decide
abbrev CR : R := R.pair (R.int u16) (R.int u8)
end
end Go.Proofs.YtghoimllhpjkjaaGreat
set_option linter.unusedSimpArgs false
open Go Go.S3 Go.Proofs
set_option linter.unusedVariables false
set_option maxRecDepth 100000
namespace Go.Proofs.YtghoimllhpjkjaaGreat
noncomputable section
end
end Go.Proofs.YtghoimllhpjkjaaGreat
open Go Go.S3 Go.Proofs Go.Proofs.Cells
set_option linter.unusedVariables false
set_option linter.unusedSimpArgs false
set_option maxRecDepth 100000
namespace Go.Proofs.YtghoimllhpjkjaaGreat
noncomputable section
theorem mst : most = 1073741824 := rfl
end
end Go.Proofs.YtghoimllhpjkjaaGreat
set_option linter.unusedSimpArgs false
open Go Go.S3 Go.Proofs Go.Proofs.Cells
set_option linter.unusedVariables false
namespace Go.Proofs.YtghoimllhpjkjaaGreat
noncomputable section
end
end Go.Proofs.YtghoimllhpjkjaaGreat
set_option linter.unusedSimpArgs false
open Go Go.S3 Go.Proofs
set_option linter.unusedVariables false
set_option maxRecDepth 100000
namespace Go.Proofs.YtghoimllhpjkjaaGreat
noncomputable section
end
end Go.Proofs.YtghoimllhpjkjaaGreat
open Go Go.S3 Go.Proofs Go.Proofs.Cells
set_option linter.unusedVariables false
set_option linter.unusedSimpArgs false
set_option maxRecDepth 100000
namespace Go.Proofs.YtghoimllhpjkjaaGreat
noncomputable section
def el (l : List Cell) (i : Nat) : Cell := l.getD i (0, 0)
theorem ZjB (l : List Cell) (i : Nat) : R.get CR l (i : Int) = el l i := by simp [R.get, el, R.dflt]
theorem ZgM (V : List Cell) (i : Nat) (h : i < V.length) : V[i]? = some (el V i) := by
 simp [el, List.getD_eq_getElem?_getD, List.getElem?_eq_getElem h]
theorem ZQk {V : List Cell} {p : Nat} {y : Cell} (h : y ∈ V.drop p) : ∃ i, p ≤ i ∧ i < V.length ∧ y = el V i := by
 obtain ⟨i, hi, rfl⟩ := List.mem_iff_getElem.1 h
 simp only [List.length_drop] at hi
 refine ⟨p + i, by omega, by omega, ?_⟩
 have := ZgM V (p + i) (by omega)
 rw [List.getElem?_eq_getElem (by omega)] at this
 simp only [oinj] at this
 rw [← this]; simp
end
end Go.Proofs.YtghoimllhpjkjaaGreat
open Go.IntKind (u8 u16 i64)
open Go Go.S3 Go.Proofs Go.Proofs.Cells
set_option linter.unusedVariables false
set_option linter.unusedSimpArgs false
set_option maxRecDepth 100000
namespace Go.Proofs.YtghoimllhpjkjaaGreat
noncomputable section
theorem Zec {α : Type} (l : List α) (i : Nat) (h : i < l.length) : Zg (i : Int) l.length = true := Zac.2 (by omega)
theorem Zxc (i : Nat) (h : i ≤ 4611686018427387904) : IntKind.wrap .i64 ((i : Int) + 1) = ((i + 1 : Nat) : Int) := by rw [ZH _ (by omega) (by omega)]; simp
end
end Go.Proofs.YtghoimllhpjkjaaGreat
open Go Go.S3 Go.Proofs Go.Proofs.Cells
set_option linter.unusedVariables false
set_option linter.unusedSimpArgs false
set_option maxRecDepth 100000
namespace Go.Proofs.YtghoimllhpjkjaaGreat
noncomputable section
end
end Go.Proofs.YtghoimllhpjkjaaGreat
set_option linter.unusedSimpArgs false
open Go Go.S3 Go.Proofs
set_option linter.unusedVariables false
set_option maxRecDepth 100000
namespace Go.Proofs.YtghoimllhpjkjaaGreat
noncomputable section
end
end Go.Proofs.YtghoimllhpjkjaaGreat
open Go Go.S3 Go.Proofs Go.Proofs.Cells
set_option linter.unusedVariables false
set_option linter.unusedSimpArgs false
set_option maxRecDepth 100000
namespace Go.Proofs.YtghoimllhpjkjaaGreat
noncomputable section
end
end Go.Proofs.YtghoimllhpjkjaaGreat
set_option linter.unusedVariables false
set_option linter.unusedSimpArgs false
open Go Go.S3 Go.Proofs
set_option maxRecDepth 100000
namespace Go.Proofs.YtghoimllhpjkjaaGreat
noncomputable section
end
end Go.Proofs.YtghoimllhpjkjaaGreat
set_option linter.unusedSimpArgs false
open Go Go.S3 Go.Proofs
set_option linter.unusedVariables false
set_option maxRecDepth 100000
namespace Go.Proofs.YtghoimllhpjkjaaGreat
noncomputable section
end
end Go.Proofs.YtghoimllhpjkjaaGreat
open Go.IntKind (u8 u16 i64)
set_option linter.unusedSimpArgs false
open Go Go.S3 Go.Proofs
set_option linter.unusedVariables false
set_option maxRecDepth 100000
namespace Go.Proofs.YtghoimllhpjkjaaGreat
noncomputable section
abbrev Zqq : List Sh := [Sh.one rcCE]
abbrev Zj3 : Rs := Rs.one (Sh.one R.bool)
def ZJn : LS := { n := 34, slots := [(0, .code (Sh.one rcCE)), (2, .code (Sh.one R.bool)), (5, .code (Sh.one (R.int i64))), (6, .code (Sh.one (R.int i64)))], boxes := [], stgs := [] }
def ZdB (a : List (Int × Int) × Bool × Int × Int × PUnit) : RT (Option (Go1 (List (Int × Int) × Bool × Int × Int × PUnit))) :=
 let x1 := (R.get (R.pair (R.int u16) (R.int u8)) a.1 a.2.2.2.1).2 == 0
 let x2 := !Zg a.2.2.2.1 (List.length a.1) || (x1 || (!decide (a.2.2.2.1 > 0) || (!Zg a.2.2.2.1 (List.length a.1) || Zg (i64.wrap (a.2.2.2.1 - 1)) (List.length a.1))))
 let x3 := !x2
 let x4 := !Zg a.2.2.2.1 (List.length a.1) || (x1 || (!decide (a.2.2.2.1 > 0) || Zg a.2.2.2.1 (List.length a.1)))
 .br (decide (a.2.2.2.1 < a.2.2.1)) (.br (x3 || (!x4 || Zg a.2.2.2.1 (List.length a.1))) (.br (x3 || x4) (.br (x2) (.br (x1 || decide (a.2.2.2.1 > 0) && decide ((R.get (R.pair (R.int u16) (R.int u8)) a.1 a.2.2.2.1).1 ≤ (R.get (R.pair (R.int u16) (R.int u8)) a.1 (i64.wrap (a.2.2.2.1 - 1))).1)) (.leaf (some (Go1.ret (a.1, false, a.2.2.1, a.2.2.2.1, PUnit.unit)))) (.leaf (some (Go1.cont (a.1, a.2.1, a.2.2.1, i64.wrap (a.2.2.2.1 + 1), PUnit.unit))))) (.leaf none)) (.leaf none)) (.leaf none)) (.leaf (some (Go1.brk (a.1, a.2.1, a.2.2.1, a.2.2.2.1, PUnit.unit))))
def ZuR : Ora := ZdV true ZJn ZdB (fun a => 1000000000000)
theorem ZxN : ZcS (envX Tryz.prog [] [] 15 8) (.block 0 (.loop (Zbc Tryz.f44.body 0))) ZuR :=
 Zaa (Zag (l := []) trivial [] 15 8) (ZO (by kernel_rfl)) (fun a => by kernel_rfl)
def Ziy (m : List (Int × Int)) : RT (Option (Bool)) :=
 let x1 := runF true ZdB (fun a => 1000000000000) (m, false, iN (List.length m), 0, ())
 let x2 := getO (false, m, false, iN (List.length m), 0, ()) x1
 .br (okB x1) (.br x2.1 (.leaf (some x2.2.2.1)) (.leaf (some (true)))) (.leaf none)
def Zk0 (m : List (Int × Int)) : Bool := getO Zj3.dflt (Ziy m).val
def Ziz (m : List (Int × Int)) : Bool := okB (Ziy m).val
def Zqs : Entry := Zf Zqq Zj3 (fun a => some (Ziz a)) (fun a => Zk0 a)
theorem ZkY : Zc Tryz.prog 44 Zqs :=
 pureP 15 [] [(0, ZuR)] Zqq Zj3 trivial Tryz.func44 Tryz.call44 ⟨ZxN, trivial⟩ (t := fun a => Ziy a) (fun a => by kernel_rfl)
abbrev ZKh : List Sh := [Sh.one rcCE, Sh.one (R.int u16)]
abbrev ZyQ : Rs := Rs.one (Sh.one (R.int u8))
def ZPj : LS := { n := 25, slots := [(0, .code (Sh.one rcCE)), (1, .code (Sh.one (R.int u16))), (4, .code (Sh.one (R.int u8))), (5, .code (Sh.one (R.int i64)))], boxes := [], stgs := [] }
def Zgi (a : List (Int × Int) × Int × Int × Int × PUnit) : RT (Option (Go1 (List (Int × Int) × Int × Int × Int × PUnit))) :=
 let x1 := (R.get (R.pair (R.int u16) (R.int u8)) a.1 a.2.2.2.1).1 == a.2.1
 .br (decide (a.2.2.2.1 ≥ 0)) (.br (!Zg a.2.2.2.1 (List.length a.1) || (!x1 || Zg a.2.2.2.1 (List.length a.1))) (.br (Zg a.2.2.2.1 (List.length a.1)) (.br (x1) (.leaf (some (Go1.ret (a.1, a.2.1, (R.get (R.pair (R.int u16) (R.int u8)) a.1 a.2.2.2.1).2, a.2.2.2.1, PUnit.unit)))) (.leaf (some (Go1.cont (a.1, a.2.1, a.2.2.1, i64.wrap (a.2.2.2.1 - 1), PUnit.unit))))) (.leaf none)) (.leaf none)) (.leaf (some (Go1.brk (a.1, a.2.1, a.2.2.1, a.2.2.2.1, PUnit.unit))))
def ZCY : Ora := ZdV true ZPj Zgi (fun a => 1000000000000)
theorem ZFq : ZcS (envX Tryz.prog [] [] 63 8) (.block 0 (.loop (Zbc Tryz.f35.body 0))) ZCY :=
 Zaa (Zag (l := []) trivial [] 63 8) (ZO (by kernel_rfl)) (fun a => by kernel_rfl)
def Zo4 (m : List (Int × Int)) (t : Int) : RT (Option (Int)) :=
 let x1 : List (Int × Int) × Int × Int × Int × PUnit := (m, t, 0, i64.wrap (iN (List.length m) - 1), ())
 let x2 := runF true Zgi (fun a => 1000000000000) x1
 let x3 := getO (false, x1) x2
 .br (okB x2) (.br x3.1 (.leaf (some x3.2.2.2.1)) (.leaf (some (0)))) (.leaf none)
def ZPk (m : List (Int × Int)) (t : Int) : Int := getO ZyQ.dflt (Zo4 m t).val
def ZCZ (m : List (Int × Int)) (t : Int) : Bool := okB (Zo4 m t).val
def ZRu : Entry := Zf ZKh ZyQ (fun a => some (ZCZ a.1 a.2)) (fun a => ZPk a.1 a.2)
theorem ZPi : Zc Tryz.prog 35 ZRu :=
 pureP 63 [] [(0, ZCY)] ZKh ZyQ trivial Tryz.func35 Tryz.call35 ⟨ZFq, trivial⟩ (t := fun a => Zo4 a.1 a.2) (fun a => by kernel_rfl)
abbrev ZJI : List Sh := [Sh.one rcCE, Sh.agg (R.pair (R.int u16) (R.int u8))]
abbrev Zx0 : Rs := Rs.one (Sh.one rcCE)
def ZO7 : LS := { n := 53, slots := [(3, .fix (A.loc 0 0)), (5, .tip 0), (6, .code (Sh.one R.bool)), (9, .code (Sh.one rcCE)), (10, .code (Sh.one (R.int i64))), (11, .code (Sh.one (R.int i64)))], boxes := [[.many (R.pair (R.int u16) (R.int u8))]], stgs := [⟨(R.pair (R.int u16) (R.int u8)), 106, true⟩] }
def ZhF (a : QT7) : RT (Option (Go1 (QT7))) :=
 let x1 : Int × Int := R.get (R.pair (R.int u16) (R.int u8)) a.2.1 a.2.2.2.1
 let x2 := x1.1
 let x3 := !a.1 && decide (x2 ≥ a.2.2.2.2.1.1)
 let x4 : List (Int × Int) := a.2.2.2.2.2.1 ++ [a.2.2.2.2.1]
 let x5 := !x3 || (!a.2.2.2.2.1.2 != 0 || Nat.ble (List.length x4) most)
 let x6 := x2 != a.2.2.2.2.1.1
 let x7 : List (Int × Int) := bif x3 then bif a.2.2.2.2.1.2 != 0 then x4 else a.2.2.2.2.2.1 else a.2.2.2.2.2.1
 let x8 : List (Int × Int) := x7 ++ [x1]
 .br (decide (a.2.2.2.1 < a.2.2.1)) (.br (!Zg a.2.2.2.1 (List.length a.2.1) || (!x5 || (!x6 || Nat.ble (List.length x8) most))) (.br (!Zg a.2.2.2.1 (List.length a.2.1) || x5) (.br (Zg a.2.2.2.1 (List.length a.2.1)) (.leaf (some (Go1.cont (x3 || a.1, a.2.1, a.2.2.1, i64.wrap (a.2.2.2.1 + 1), a.2.2.2.2.1, bif x6 then x8 else x7, PUnit.unit)))) (.leaf none)) (.leaf none)) (.leaf none)) (.leaf (some (Go1.brk (a.1, a.2.1, a.2.2.1, a.2.2.2.1, a.2.2.2.2.1, a.2.2.2.2.2.1, PUnit.unit))))
def ZCH : Ora := ZdV false ZO7 ZhF (fun a => 1000000000000)
theorem ZE9 : ZcS (envX Tryz.prog [] [] 511 8) (.block 0 (.loop (Zbc Tryz.f149.body 0))) ZCH :=
 Zaa (Zag (l := []) trivial [] 511 8) (ZO (by kernel_rfl)) (fun a => by kernel_rfl)
def ZoW (m : List (Int × Int)) (c : Int × Int) : RT (Option (List (Int × Int))) :=
 let x1 : QT7 := (false, m, iN (List.length m), 0, c, [], ())
 let x2 := runF false ZhF (fun a => 1000000000000) x1
 let x3 : QT7 := (getO (false, x1) x2).2
 let x4 := x3.2.2.2.2
 let x5 := x4.1
 let x6 := !x3.1 && x5.2 != 0
 let x7 := x4.2.1
 let x8 : List (Int × Int) := x7 ++ [x5]
 .br (okB x2) (.br (!x6 || Nat.ble (List.length x8) most) (.leaf (some (bif x6 then x8 else x7))) (.leaf none)) (.leaf none)
def ZFa (m : List (Int × Int)) (c : Int × Int) : List (Int × Int) := getO Zx0.dflt (ZoW m c).val
def ZoX (m : List (Int × Int)) (c : Int × Int) : Bool := okB (ZoW m c).val
def Zu8 : Entry := Zf ZJI Zx0 (fun a => some (ZoX a.1 a.2)) (fun a => ZFa a.1 a.2)
theorem ZqD : Zc Tryz.prog 149 Zu8 :=
 pureP 511 [] [(0, ZCH)] ZJI Zx0 trivial Tryz.func149 Tryz.call149 ⟨ZE9, trivial⟩ (t := fun a => ZoW a.1 a.2) (fun a => by kernel_rfl)
abbrev Zx6 : List Sh := [Sh.one rcCE]
abbrev ZqI : Rs := Rs.one (Sh.one rcCE)
def ZPf : LS := { n := 21, slots := [(3, .code (Sh.one rcCE)), (10, .code (Sh.one rcCE)), (11, .code (Sh.one (R.int i64))), (12, .code (Sh.one (R.int i64)))], boxes := [], stgs := [] }
def ZhI (a : List (Int × Int) × List (Int × Int) × Int × Int × PUnit) : RT (Option (Go1 (List (Int × Int) × List (Int × Int) × Int × Int × PUnit))) :=
 let x1 : Int × Int := R.get (R.pair (R.int u16) (R.int u8)) a.2.1 a.2.2.2.1
 .br (decide (a.2.2.2.1 < a.2.2.1)) (.br (!Zg a.2.2.2.1 (List.length a.2.1) || ZoX a.1 x1) (.br (Zg a.2.2.2.1 (List.length a.2.1)) (.leaf (some (Go1.cont (ZFa a.1 x1, a.2.1, a.2.2.1, i64.wrap (a.2.2.2.1 + 1), PUnit.unit)))) (.leaf none)) (.leaf none)) (.leaf (some (Go1.brk (a.1, a.2.1, a.2.2.1, a.2.2.2.1, PUnit.unit))))
def ZCO : Ora := ZdV false ZPf ZhI (fun a => 1000000000000)
theorem ZFc : ZcS (envX Tryz.prog [(44, Zqs), (149, Zu8)] [] 63 8) (.block 0 (.loop (Zbc Tryz.f92.body 0))) ZCO :=
 Zaa (Zag (l := [(44, Zqs), (149, Zu8)]) ⟨ZkY, ZqD, trivial⟩ [] 63 8) (ZO (by kernel_rfl)) (fun a => by kernel_rfl)
def Zo1 (l : List (Int × Int)) : RT (Option (List (Int × Int))) :=
 let x1 := runF false ZhI (fun a => 1000000000000) ([], l, iN (List.length l), 0, ())
 .br (Ziz l) (.br (!Zk0 l || Nat.ble (List.length ([] ++ l)) most) (.br (Zk0 l) (.leaf (some ([] ++ l))) (.br (okB x1) (.leaf (some (getO (false, [], l, iN (List.length l), 0, ()) x1).2.1)) (.leaf none))) (.leaf none)) (.leaf none)
def ZFd (l : List (Int × Int)) : List (Int × Int) := getO ZqI.dflt (Zo1 l).val
def Zo2 (l : List (Int × Int)) : Bool := okB (Zo1 l).val
def ZJ2 : Entry := Zf Zx6 ZqI (fun a => some (Zo2 a)) (fun a => ZFd a)
theorem ZqH : Zc Tryz.prog 92 ZJ2 :=
 pureP 63 [(44, Zqs), (149, Zu8)] [(0, ZCO)] Zx6 ZqI ⟨ZkY, ZqD, trivial⟩ Tryz.func92 Tryz.call92 ⟨ZFc, trivial⟩ (t := fun a => Zo1 a) (fun a => by kernel_rfl)
abbrev ZJH : List Sh := [Sh.one rcCE, Sh.one (R.int u16), Sh.one (R.int u8)]
abbrev ZxZ : Rs := Rs.one (Sh.one rcCE)
def Zu7 (m : List (Int × Int)) (t : Int) (v : Int) : RT (Option (List (Int × Int))) :=
 .br (!Zo2 m || ZoX (ZFd m) (t, v)) (.br (Zo2 m) (.leaf (some (ZFa (ZFd m) (t, v)))) (.leaf none)) (.leaf none)
def ZO6 (m : List (Int × Int)) (t : Int) (v : Int) : List (Int × Int) := getO ZxZ.dflt (Zu7 m t v).val
def ZCG (m : List (Int × Int)) (t : Int) (v : Int) : Bool := okB (Zu7 m t v).val
def ZRe : Entry := Zf ZJH ZxZ (fun a => some (ZCG a.1 a.2.1 a.2.2)) (fun a => ZO6 a.1 a.2.1 a.2.2)
theorem ZO5 : Zc Tryz.prog 161 ZRe :=
 pureP 127 [(92, ZJ2), (149, Zu8)] [] ZJH ZxZ ⟨ZqH, ZqD, trivial⟩ Tryz.func161 Tryz.call161 trivial (t := fun a => Zu7 a.1 a.2.1 a.2.2) (fun a => by kernel_rfl)
abbrev ZKi : List Sh := [Sh.one rcRG, Sh.one (R.int u16)]
abbrev ZyU : Rs := Rs.one (Sh.one (R.int i64))
def ZPl : LS := { n := 26, slots := [(1, .code (Sh.one (R.int u16))), (4, .code (Sh.one (R.int i64))), (7, .code (Sh.one rcRG)), (8, .code (Sh.one (R.int i64))), (9, .code (Sh.one (R.int i64)))], boxes := [], stgs := [] }
def Zgj (a : QT21) : RT (Option (Go1 (QT21))) :=
 let x1 : QT9 := R.get (R.pair (R.int u16) (R.pair (R.int u16) (R.pair R.bool (R.int i64)))) a.2.2.1 a.2.2.2.2.1
 let x2 : List (QT9) × Int × Int × PUnit := (a.2.2.1, a.2.2.2.1, a.2.2.2.2.1, PUnit.unit)
 .br (decide (a.2.2.2.2.1 < a.2.2.2.1)) (.br (Zg a.2.2.2.2.1 (List.length a.2.2.1)) (.br (decide (x1.1 ≤ a.1) && decide (a.1 ≤ x1.2.1)) (.leaf (some (Go1.ret (a.1, a.2.2.2.2.1, x2)))) (.leaf (some (Go1.cont (a.1, a.2.1, a.2.2.1, a.2.2.2.1, i64.wrap (a.2.2.2.2.1 + 1), PUnit.unit))))) (.leaf none)) (.leaf (some (Go1.brk (a.1, a.2.1, x2))))
def ZC2 : Ora := ZdV true ZPl Zgj (fun a => 1000000000000)
theorem ZFr : ZcS (envX Tryz.prog [] [] 127 8) (.block 0 (.loop (Zbc Tryz.f43.body 0))) ZC2 :=
 Zaa (Zag (l := []) trivial [] 127 8) (ZO (by kernel_rfl)) (fun a => by kernel_rfl)
def Zo5 (l : List (QT9)) (t : Int) : RT (Option (Int)) :=
 let x1 := runF true Zgj (fun a => 1000000000000) (t, 0, l, iN (List.length l), 0, ())
 let x2 := getO (false, t, 0, l, iN (List.length l), 0, ()) x1
 .br (okB x1) (.br x2.1 (.leaf (some x2.2.2.1)) (.leaf (some (-1)))) (.leaf none)
def ZjR (l : List (QT9)) (t : Int) : Int := getO ZyU.dflt (Zo5 l t).val
def Zo6 (l : List (QT9)) (t : Int) : Bool := okB (Zo5 l t).val
def ZC3 : Entry := Zf ZKi ZyU (fun a => some (Zo6 a.1 a.2)) (fun a => ZjR a.1 a.2)
theorem ZqY : Zc Tryz.prog 43 ZC3 :=
 pureP 127 [] [(0, ZC2)] ZKi ZyU trivial Tryz.func43 Tryz.call43 ⟨ZFr, trivial⟩ (t := fun a => Zo5 a.1 a.2) (fun a => by kernel_rfl)
abbrev Zqz : List Sh := [Sh.one rcRG, Sh.one rcCE, Sh.one (R.int u16)]
abbrev Zj6 : Rs := Rs.one (Sh.one (R.int u8))
def Zk6 (l : List (QT9)) (m : List (Int × Int)) (t : Int) : RT (Option (Int)) :=
 .br (Zo6 l t) (.br (decide (ZjR l t < 0)) (.leaf (some (255))) (.br (ZCZ m t) (.leaf (some (ZPk m t))) (.leaf none))) (.leaf none)
def ZJC (l : List (QT9)) (m : List (Int × Int)) (t : Int) : Int := getO Zj6.dflt (Zk6 l m t).val
def ZxV (l : List (QT9)) (m : List (Int × Int)) (t : Int) : Bool := okB (Zk6 l m t).val
def ZSX : Entry := Zf Zqz Zj6 (fun a => some (ZxV a.1 a.2.1 a.2.2)) (fun a => ZJC a.1 a.2.1 a.2.2)
theorem ZJB : Zc Tryz.prog 102 ZSX :=
 pureP 127 [(35, ZRu), (43, ZC3)] [] Zqz Zj6 ⟨ZPi, ZqY, trivial⟩ Tryz.func102 Tryz.call102 trivial (t := fun a => Zk6 a.1 a.2.1 a.2.2) (fun a => by kernel_rfl)
abbrev ZkU : List Sh := [Sh.one rcRG, Sh.one rcCE, Sh.one (R.int u16), Sh.one (R.int u8)]
abbrev Zhw : Rs := Rs.one (Sh.one rcCE)
def Zhv (l : List (QT9)) (m : List (Int × Int)) (t : Int) (v : Int) : RT (Option (List (Int × Int))) :=
 let x1 := decide (ZjR l t ≥ 0) && (R.get (R.pair (R.int u16) (R.pair (R.int u16) (R.pair R.bool (R.int i64)))) l (ZjR l t)).2.2.1
 .br (Zo6 l t) (.br (!decide (ZjR l t ≥ 0) || Zg (ZjR l t) (List.length l)) (.br (!x1 || ZCG m t v) (.br (x1) (.leaf (some (ZO6 m t v))) (.br (Zo2 m) (.leaf (some (ZFd m))) (.leaf none))) (.leaf none)) (.leaf none)) (.leaf none)
def ZxJ (l : List (QT9)) (m : List (Int × Int)) (t : Int) (v : Int) : List (Int × Int) := getO Zhw.dflt (Zhv l m t v).val
def Zqn (l : List (QT9)) (m : List (Int × Int)) (t : Int) (v : Int) : Bool := okB (Zhv l m t v).val
def ZOV : Entry := Zf ZkU Zhw (fun a => some (Zqn a.1 a.2.1 a.2.2.1 a.2.2.2)) (fun a => ZxJ a.1 a.2.1 a.2.2.1 a.2.2.2)
theorem ZEY : Zc Tryz.prog 101 ZOV :=
 pureP 1023 [(43, ZC3), (92, ZJ2), (161, ZRe)] [] ZkU Zhw ⟨ZqY, ZqH, ZO5, trivial⟩ Tryz.func101 Tryz.call101 trivial (t := fun a => Zhv a.1 a.2.1 a.2.2.1 a.2.2.2) (fun a => by kernel_rfl)
end
end Go.Proofs.YtghoimllhpjkjaaGreat
set_option linter.unusedVariables false
set_option linter.unusedSimpArgs false
namespace Go.Proofs.Cells
def getX (l : List Cell) (a : Int) : Int := ((flt a l).getLast?.map Prod.snd).getD 0
def Vld (m : List Cell) : Prop := m.Pairwise (fun a b => a.1 < b.1) ∧ ∀ c ∈ m, c.2 ≠ 0
theorem Vld.srt {m : List Cell} (h : Vld m) : Srt m := h.1.imp fun h => Int.le_of_lt h
theorem Vld.tail {c : Cell} {m : List Cell} (h : Vld (c :: m)) : Vld m := ⟨(List.pairwise_cons.1 h.1).2, fun x hx => h.2 x (List.mem_cons_of_mem _ hx)⟩
theorem ZEo (a : Int) : getX [] a = 0 := rfl
theorem ZtQ (a : Int) (c : Cell) (l : List Cell) : flt a (c :: l) = if c.1 = a then c :: flt a l else flt a l := by
 by_cases h : c.1 = a <;> simp [flt, h]
theorem ZnN (c : Cell) (l : List Cell) (a : Int) : getX (c :: l) a = if c.1 = a ∧ flt a l = [] then c.2 else getX l a := by
 simp only [getX, ZtQ]
 by_cases h : c.1 = a
 ·simp only [h, if_true, true_and]
  cases hf : flt a l with
  | nil => simp
  | cons x r => simp [List.getLast?_cons_cons]
 ·simp [h]
theorem Vld.flt {m : List Cell} (h : Vld m) (a : Int) : Cells.flt a m = if getX m a = 0 then [] else [(a, getX m a)] := by
 induction m with
 | nil => simp [Cells.flt, ZEo]
 | cons c m ih =>
  have ih := ih h.tail
  have h1 := List.pairwise_cons.1 h.1
  by_cases hc : c.1 = a
  ·have hn : Cells.flt a m = [] := ZnV fun x hx => by have := h1.1 x hx; omega
   have hz := h.2 c (by simp)
   rw [ZtQ, ZnN]
   simp only [hc, hn, and_self, if_true, hz, if_false]
   rw [← hc]
  ·rw [ZtQ, ZnN]
   simp only [hc, false_and, if_false, ih]
theorem ZSv {m m' : List Cell} (h : Vld m) (h' : Vld m') (e : ∀ a, getX m a = getX m' a) : m = m' :=
 uniq h.srt h'.srt fun k => by rw [h.flt, h'.flt, e k]
def putX : List Cell → Cell → List Cell
 | [], c => if c.2 = 0 then [] else [c]
 | x :: r, c => if x.1 < c.1 then x :: putX r c else if c.2 = 0 then (if x.1 = c.1 then r else x :: r) else if x.1 = c.1 then c :: r else c :: x :: r
theorem ZrK : ∀ {m : List Cell} {c x : Cell}, x ∈ putX m c → x = c ∨ x ∈ m
 | [], c, x, h => by
  simp only [putX] at h
  split at h
  ·simp at h
  ·left; simpa using h
 | y :: r, c, x, h => by
  simp only [putX] at h
  split at h
  ·rcases List.mem_cons.1 h with e | e
   ·right; simp [e]
   ·rcases ZrK e with e | e
    ·exact .inl e
    ·right; simp [e]
  ·split at h
   ·split at h
    ·right; simp [h]
    ·right; exact h
   ·split at h
    ·rcases List.mem_cons.1 h with e | e
     ·exact .inl e
     ·right; simp [e]
    ·rcases List.mem_cons.1 h with e | e
     ·exact .inl e
     ·right; exact e
theorem ZDg : ∀ {m : List Cell} {c : Cell}, Vld m → Vld (putX m c)
 | [], c, _ => by
  simp only [putX]
  split
  ·exact ⟨List.Pairwise.nil, fun c h => by simp at h⟩
  ·rename_i hz; exact ⟨by simp, fun x h => by simp at h; rw [h]; exact hz⟩
 | y :: r, c, h => by
  have h1 := List.pairwise_cons.1 h.1
  have hy := h.2 y (by simp)
  simp only [putX]
  split
  ·rename_i hlt
   have ih := ZDg (c := c) h.tail
   refine ⟨List.pairwise_cons.2 ⟨fun x hx => ?_, ih.1⟩, fun x hx => ?_⟩
   ·rcases ZrK hx with e | e
    ·rw [e]; exact hlt
    ·exact h1.1 x e
   ·rcases List.mem_cons.1 hx with e | e
    ·rw [e]; exact hy
    ·exact ih.2 x e
  ·rename_i hge
   split
   ·split
    ·exact h.tail
    ·exact h
   ·rename_i hz
    split
    ·rename_i he
     refine ⟨List.pairwise_cons.2 ⟨fun x hx => ?_, h1.2⟩, fun x hx => ?_⟩
     ·have := h1.1 x hx; omega
     ·rcases List.mem_cons.1 hx with e | e
      ·rw [e]; exact hz
      ·exact h.2 x (List.mem_cons_of_mem _ e)
    ·rename_i hne
     refine ⟨List.pairwise_cons.2 ⟨fun x hx => ?_, h.1⟩, fun x hx => ?_⟩
     ·rcases List.mem_cons.1 hx with e | e
      ·rw [e]; omega
      ·have := h1.1 x e; omega
     ·rcases List.mem_cons.1 hx with e | e
      ·rw [e]; exact hz
      ·exact h.2 x e
theorem ZtK {l : List Cell} {a : Int} (h : ∀ c ∈ l, c.1 ≠ a) : getX l a = 0 := by rw [getX, ZnV h]; rfl
theorem Zdx {x : Cell} {r : List Cell} (h : ∀ c ∈ r, x.1 < c.1) (a : Int) : getX (x :: r) a = if x.1 = a then x.2 else getX r a := by
 rw [ZnN]
 by_cases hx : x.1 = a
 ·have : flt a r = [] := ZnV fun c hc => by have := h c hc; omega
  simp [hx, this]
 ·simp [hx]
theorem ZDh : ∀ {m : List Cell} {c : Cell}, Vld m → ∀ a, getX (putX m c) a = if c.1 = a then c.2 else getX m a
 | [], c, _, a => by
  simp only [putX]
  split
  ·rename_i hz; rw [ZEo, hz]; simp
  ·rw [Zdx (by simp)]
 | y :: r, c, h, a => by
  have h1 := List.pairwise_cons.1 h.1
  simp only [putX]
  split
  ·rename_i hlt
   rw [Zdx (fun x hx => by
    rcases ZrK hx with e | e
    ·rw [e]; exact hlt
    ·exact h1.1 x e), Zdx h1.1, ZDh h.tail a]
   by_cases e1 : y.1 = a
   ·simp only [e1, if_true]; rw [if_neg (by omega)]
   ·simp [e1]
  ·rename_i hge
   split
   ·rename_i hz
    split
    ·rename_i he
     rw [Zdx h1.1]
     by_cases e : c.1 = a
     ·rw [if_pos e, hz]
      exact ZtK fun x hx => by have := h1.1 x hx; omega
     ·rw [if_neg e, if_neg (by omega)]
    ·rename_i hne
     by_cases e : c.1 = a
     ·rw [if_pos e, hz]
      exact ZtK fun x hx => by
       rcases List.mem_cons.1 hx with e' | e'
       ·rw [e']; omega
       ·have := h1.1 x e'; omega
     ·rw [if_neg e]
   ·split
    ·rename_i he
     rw [Zdx (fun x hx => by have := h1.1 x hx; omega), Zdx h1.1]
     by_cases e : c.1 = a
     ·simp [e]
     ·rw [if_neg e, if_neg e, if_neg (by omega)]
    ·rename_i hne
     rw [Zdx (fun x hx => by
      rcases List.mem_cons.1 hx with e | e
      ·rw [e]; omega
      ·have := h1.1 x e; omega)]
def normX (l : List Cell) : List Cell := l.foldl putX []
theorem ZNA (l : List Cell) (c : Cell) (a : Int) : getX (l ++ [c]) a = if c.1 = a then c.2 else getX l a := by
 rw [getX, getX, Zjb]
 by_cases h : c.1 = a
 ·have : flt a [c] = [c] := by simp [flt, h]
  rw [this, List.getLast?_append]; simp [h]
 ·have : flt a [c] = [] := ZnV fun x hx => by simp at hx; rw [hx]; exact h
  rw [this]; simp [h]
theorem ZnQ : ∀ (l : List Cell) {m : List Cell}, Vld m → Vld (l.foldl putX m) ∧ ∀ a, getX (l.foldl putX m) a = getX (m ++ l) a
 | [], m, h => ⟨h, fun a => by simp⟩
 | c :: l, m, h => by
  obtain ⟨h1, h2⟩ := ZnQ l (ZDg (c := c) h)
  refine ⟨h1, fun a => ?_⟩
  rw [List.foldl_cons, h2 a]
  have e : m ++ c :: l = (m ++ [c]) ++ l := by simp
  rw [e]
  have key : ∀ {p q : List Cell}, (∀ b, getX p b = getX q b) → ∀ l b, getX (p ++ l) b = getX (q ++ l) b := by
   intro p q hpq l b
   simp only [getX, Zjb, List.getLast?_append]
   cases hl : (flt b l).getLast? with
   | none => simpa [getX] using hpq b
   | some x => simp
  exact key (fun b => by rw [ZDh h, ZNA]) l a
theorem Zh1 (l : List Cell) : Vld (normX l) := (ZnQ l ⟨List.Pairwise.nil, fun c h => by simp at h⟩).1
theorem ZMO (l : List Cell) (a : Int) : getX (normX l) a = getX l a := (ZnQ l ⟨List.Pairwise.nil, fun c h => by simp at h⟩).2 a
theorem ZQe {l m : List Cell} (h : Vld m) (e : ∀ a, getX m a = getX l a) : normX l = m := ZSv (Zh1 l) h fun a => by rw [ZMO, e]
theorem Zpv {m : List Cell} (h : Vld m) : normX m = m := ZQe h fun _ => rfl
end Go.Proofs.Cells
open Go.IntKind (u8 u16 i64)
open Go Go.S3 Go.Proofs Go.Proofs.Cells
set_option linter.unusedVariables false
set_option linter.unusedSimpArgs false
set_option maxRecDepth 100000
namespace Go.Proofs.YtghoimllhpjkjaaGreat
noncomputable section
abbrev Zah := QT9
theorem ZUJ (l : List Cell) (i : Nat) (h : i < l.length) : l.drop i = el l i :: l.drop (i + 1) := by
 rw [List.drop_eq_getElem_cons h]
 have := ZgM l i h
 rw [List.getElem?_eq_getElem h, oinj] at this
 rw [this]
theorem Zxt (l : List Cell) (i : Nat) (h : i < l.length) : l.take (i + 1) = l.take i ++ [el l i] := by
 rw [List.take_add_one, ZgM l i h]; rfl
theorem ZVN (l : List Cell) (i : Nat) (h : i < l.length) : el l i ∈ l := List.mem_iff_getElem?.2 ⟨i, ZgM l i h⟩
def okAt (m : List Cell) (i : Nat) : Bool := !((el m i).2 == 0 || (decide ((i : Int) > 0) && decide ((el m i).1 ≤ (el m (i - 1)).1)))
def vldB (m : List Cell) : Bool := (List.range m.length).all (okAt m)
theorem ZEK {m : List Cell} {i : Nat} (hi : i < m.length) (h : okAt m i = false) : vldB m = false := by
 rw [Bool.eq_false_iff]; intro he
 have := List.all_eq_true.1 he i (List.mem_range.2 hi)
 rw [h] at this; exact absurd this (by simp)
theorem Zuk {m : List Cell} (h : ∀ i, i < m.length → okAt m i = true) : vldB m = true := List.all_eq_true.2 fun i hi => h i (List.mem_range.1 hi)
theorem ZBM {m : List Cell} : vldB m = true ↔ Vld m := by
 constructor
 ·intro h
  have ha : ∀ i, i < m.length → okAt m i = true := fun i hi => List.all_eq_true.1 h i (List.mem_range.2 hi)
  have hs : ∀ i, i + 1 < m.length → (el m i).1 < (el m (i + 1)).1 := fun i hi => by
   have := ha (i + 1) hi
   simp only [okAt, Bool.not_eq_true', Bool.or_eq_false_iff, Bool.and_eq_false_iff, decide_eq_false_iff_not, Nat.add_sub_cancel] at this
   rcases this.2 with e | e
   ·omega
   ·omega
  refine ⟨?_, fun c hc => ?_⟩
  ·rw [List.pairwise_iff_getElem]
   have key : ∀ d i, i + d + 1 < m.length → (el m i).1 < (el m (i + d + 1)).1 := by
    intro d
    induction d with
    | zero => intro i hi; exact hs i hi
    | succ d ih => intro i hi; have h1 := ih i (by omega); have h2 := hs (i + d + 1) (by omega); rw [show i + (d + 1) + 1 = i + d + 1 + 1 by omega]; omega
   intro i j hi hj hij
   have := key (j - i - 1) i (by omega)
   rw [show i + (j - i - 1) + 1 = j by omega] at this
   have e1 := ZgM m i hi
   have e2 := ZgM m j hj
   rw [List.getElem?_eq_getElem hi, oinj] at e1
   rw [List.getElem?_eq_getElem hj, oinj] at e2
   rw [e1, e2]; exact this
  ·obtain ⟨i, hi⟩ := List.mem_iff_getElem?.1 hc
   have hlt := (List.getElem?_eq_some_iff.1 hi).1
   rw [ZgM m i hlt, oinj] at hi
   have := ha i hlt
   rw [← hi]
   simp only [okAt, Bool.not_eq_true', Bool.or_eq_false_iff, beq_eq_false_iff_ne] at this
   exact this.1
 ·intro h
  refine Zuk fun i hi => ?_
  simp only [okAt, Bool.not_eq_true', Bool.or_eq_false_iff, beq_eq_false_iff_ne, Bool.and_eq_false_iff, decide_eq_false_iff_not]
  refine ⟨h.2 _ (ZVN m i hi), ?_⟩
  by_cases h0 : i = 0
  ·left; omega
  ·right
   have := List.pairwise_iff_getElem.1 h.1 (i - 1) i (by omega) hi (by omega)
   have e1 := ZgM m (i - 1) (by omega)
   have e2 := ZgM m i hi
   rw [List.getElem?_eq_getElem (by omega), oinj] at e1
   rw [List.getElem?_eq_getElem hi, oinj] at e2
   rw [e1, e2] at this; omega
theorem wsub1 (i : Nat) (h : 0 < i) (h2 : i ≤ 4611686018427387904) : IntKind.wrap .i64 ((i : Int) - 1) = ((i - 1 : Nat) : Int) := by rw [ZH _ (by omega) (by omega)]; omega
theorem ZUg (m : List Cell) (i : Nat) : ((el m i).2 == 0 || (decide ((i : Int) > 0) && decide ((el m i).1 ≤ (el m (i - 1)).1))) = !okAt m i := by simp only [okAt, Bool.not_not]
theorem ZoG (m : List Cell) (hm : m.length ≤ most) : (Ziy m).val = some (vldB m) := by
 have hms := mst
 obtain ⟨r, hr, hR⟩ := Zax (fl := true) (t := ZdB) (fuel := fun a => 1000000000000)
  (I := fun a => ∃ i : Nat, i ≤ m.length ∧ (∀ k, k < i → okAt m k = true) ∧ a = (m, false, (m.length : Int), (i : Int), ()))
  (m := fun a => Int.toNat (a.2.2.1 - a.2.2.2.1)) (R := fun r => (r.1 = false ∧ vldB m = true) ∨ (r.1 = true ∧ vldB m = false ∧ r.2.2.1 = false))
  (fun a hi => by
   obtain ⟨i, hi, hk, rfl⟩ := hi
   by_cases hlt : i < m.length
   ·have d : decide ((i : Int) < (m.length : Int)) = true := by simpa using hlt
    have r1 := Zec m i hlt
    have hw : decide ((i : Int) > 0) = true → Zg (IntKind.wrap .i64 ((i : Int) - 1)) m.length = true ∧ IntKind.wrap .i64 ((i : Int) - 1) = ((i - 1 : Nat) : Int) := fun h => by
     simp only [decide_eq_true_eq] at h
     have e := wsub1 i (by omega) (by omega)
     exact ⟨by rw [e]; exact Zec m (i - 1) (by omega), e⟩
    have hck : ((el m i).2 == 0 || (!decide ((i : Int) > 0) || Zg (IntKind.wrap .i64 ((i : Int) - 1)) m.length)) = true := by
     cases h : decide ((i : Int) > 0) with
     | false => simp
     | true => rw [(hw h).1]; simp
    have hcd : ((el m i).2 == 0 || (decide ((i : Int) > 0) && decide ((el m i).1 ≤ (R.get CR m (IntKind.wrap .i64 ((i : Int) - 1))).1))) = !okAt m i := by
     rw [← ZUg]
     cases h : decide ((i : Int) > 0) with
     | false => simp
     | true => rw [(hw h).2, ZjB]
    cases ho : okAt m i with
    | true =>
     left
     refine ⟨(m, false, (m.length : Int), ((i + 1 : Nat) : Int), ()), ?_, ⟨i + 1, hlt, fun k hk' => ?_, rfl⟩, by simp only; omega⟩
     ·rw [ho] at hcd
      simp only [ZdB, RT.val, d, r1, ZjB, hck, hcd, Bool.not_true, Bool.false_or, Bool.or_true, cond_true, cond_false, Zxc i (by omega)]
     ·by_cases e : k = i
      ·subst e; exact ho
      ·exact hk k (by omega)
    | false =>
     right; right
     refine ⟨(m, false, (m.length : Int), (i : Int), ()), rfl, ?_, .inr ⟨rfl, ZEK hlt ho, rfl⟩⟩
     rw [ho] at hcd
     simp only [ZdB, RT.val, d, r1, ZjB, hck, hcd, Bool.not_true, Bool.not_false, Bool.false_or, Bool.or_true, cond_true, cond_false]
   ·right; left
    have d : decide ((i : Int) < (m.length : Int)) = false := by simpa using hlt
    exact ⟨(m, false, (m.length : Int), (i : Int), ()), by simp only [ZdB, RT.val, d, cond_false], .inl ⟨rfl, Zuk fun k hk' => hk k (by omega)⟩⟩)
  (m, false, (m.length : Int), 0, ()) ⟨0, Nat.zero_le _, fun k h => by omega, rfl⟩ (by simp only; omega)
 have hr' : runF true ZdB (fun a => 1000000000000) (m, false, iN m.length, 0, ()) = some r := hr
 rcases hR with ⟨h1, h2⟩ | ⟨h1, h2, h3⟩
 ·simp only [Ziy, RT.val, hr', okB, getO, cond_true, h1, cond_false, h2]
 ·simp only [Ziy, RT.val, hr', okB, getO, cond_true, h1, h2, h3]
theorem ZUz {m : List Cell} {t : Int} {i : Nat} (hi : i < m.length) (he : (el m i).1 = t) (hk : ∀ k, i < k → k < m.length → (el m k).1 ≠ t) : getX m t = (el m i).2 := by
 have e : m = m.take i ++ [el m i] ++ m.drop (i + 1) := by rw [List.append_assoc, List.singleton_append, ← ZUJ m i hi, List.take_append_drop]
 have h0 : flt t (m.drop (i + 1)) = [] := ZnV fun c hc => by
  obtain ⟨k, h1, h2, rfl⟩ := ZQk hc
  exact hk k (by omega) h2
 have h1 : flt t [el m i] = [el m i] := by simp [flt, he]
 have h2 : flt t m = flt t (m.take i) ++ [el m i] := by
  conv => lhs; rw [e, Zjb, Zjb, h0, h1, List.append_nil]
 rw [getX, h2, List.getLast?_append]; simp
theorem ZOQ (m : List Cell) (t : Int) (hm : m.length ≤ most) : (Zo4 m t).val = some (getX m t) := by
 have hms := mst
 obtain ⟨r, hr, hR⟩ := Zax (fl := true) (t := Zgi) (fuel := fun a => 1000000000000)
  (I := fun a => ∃ i : Nat, i ≤ m.length ∧ (∀ k, i ≤ k → k < m.length → (el m k).1 ≠ t) ∧ a = (m, t, 0, (i : Int) - 1, ()))
  (m := fun a => Int.toNat (a.2.2.2.1 + 1)) (R := fun r => (r.1 = false ∧ getX m t = 0) ∨ (r.1 = true ∧ r.2.2.2.1 = getX m t))
  (fun a hi => by
   obtain ⟨i, hi, hk, rfl⟩ := hi
   cases i with
   | zero =>
    right; left
    refine ⟨(m, t, 0, ((0 : Nat) : Int) - 1, ()), by simp [Zgi, RT.val], .inl ⟨rfl, ZtK fun c hc => ?_⟩⟩
    obtain ⟨k, hk'⟩ := List.mem_iff_getElem?.1 hc
    have hlt := (List.getElem?_eq_some_iff.1 hk').1
    rw [ZgM m k hlt, oinj] at hk'
    rw [← hk']; exact hk k (Nat.zero_le _) hlt
   | succ i =>
    have ei : ((i + 1 : Nat) : Int) - 1 = (i : Int) := by omega
    rw [ei]
    have d : decide ((i : Int) ≥ 0) = true := by simp
    have r1 := Zec m i (by omega)
    cases he : ((el m i).1 == t) with
    | true =>
     right; right
     refine ⟨(m, t, (el m i).2, (i : Int), ()), rfl, by simp only [Zgi, RT.val, d, r1, ZjB, he, cond_true, Bool.not_true, Bool.false_or], .inr ⟨rfl, ?_⟩⟩
     exact (ZUz (by omega) (by simpa using he) fun k h1 h2 => hk k (by omega) h2).symm
    | false =>
     left
     refine ⟨(m, t, 0, (i : Int) - 1, ()), ?_, ⟨i, by omega, fun k h1 h2 => ?_, rfl⟩, by simp only; omega⟩
     ·have w : IntKind.wrap .i64 ((i : Int) - 1) = (i : Int) - 1 := ZH _ (by omega) (by omega)
      simp only [Zgi, RT.val, d, r1, ZjB, he, cond_true, cond_false, Bool.not_true, Bool.not_false, Bool.true_or, Bool.false_or, w]
     ·by_cases e : k = i
      ·subst e; simpa using he
      ·exact hk k (by omega) h2)
  (m, t, 0, (m.length : Int) - 1, ()) ⟨m.length, Nat.le_refl _, fun k h1 h2 => by omega, rfl⟩ (by simp only; omega)
 have w : IntKind.wrap .i64 (iN m.length - 1) = (m.length : Int) - 1 := ZH _ (by simp only [iN]; omega) (by simp only [iN]; omega)
 rcases hR with ⟨h1, h2⟩ | ⟨h1, h2⟩
 ·simp only [Zo4, RT.val, w, hr, okB, getO, cond_true, h1, cond_false, h2]
 ·simp only [Zo4, RT.val, w, hr, okB, getO, cond_true, h1, h2]
end
end Go.Proofs.YtghoimllhpjkjaaGreat
open Go Go.S3 Go.Proofs Go.Proofs.Cells
set_option linter.unusedVariables false
set_option linter.unusedSimpArgs false
set_option maxRecDepth 100000
namespace Go.Proofs.YtghoimllhpjkjaaGreat
noncomputable section
def pst (c : Cell) (s : Bool × List Cell) (x : Cell) : Bool × List Cell :=
 let t := !s.1 && decide (x.1 ≥ c.1)
 let o := bif t then (bif c.2 != 0 then s.2 ++ [c] else s.2) else s.2
 (t || s.1, bif x.1 != c.1 then o ++ [x] else o)
def pfin (c : Cell) (s : Bool × List Cell) : List Cell := bif !s.1 && c.2 != 0 then s.2 ++ [c] else s.2
theorem ZDl (c : Cell) : ∀ (m : List Cell) (o : List Cell), (∀ x ∈ m, x.1 ≠ c.1) → m.foldl (pst c) (true, o) = (true, o ++ m)
 | [], o, _ => by simp
 | x :: m, o, h => by
  have hx : (x.1 != c.1) = true := by simpa using h x (by simp)
  simp only [List.foldl_cons, pst, Bool.not_true, Bool.false_and, cond_false, Bool.or_true, hx, cond_true]
  rw [ZDl c m (o ++ [x]) fun y hy => h y (List.mem_cons_of_mem _ hy)]
  simp
theorem ZKU (c : Cell) : ∀ (m : List Cell) (o : List Cell), m.Pairwise (fun a b => a.1 < b.1) → pfin c (m.foldl (pst c) (false, o)) = o ++ putX m c
 | [], o, _ => by
  simp only [List.foldl_nil, pfin, putX, Bool.not_false, Bool.true_and]
  by_cases h : c.2 = 0
  ·simp [h]
  ·have : (c.2 != 0) = true := by simpa using h
   simp [h, this]
 | x :: m, o, h => by
  have h1 := List.pairwise_cons.1 h
  by_cases hx : x.1 < c.1
  ·have e1 : decide (x.1 ≥ c.1) = false := by simp; omega
   have e2 : (x.1 != c.1) = true := by simp; omega
   simp only [List.foldl_cons, pst, e1, Bool.and_false, cond_false, Bool.or_false, e2, cond_true]
   rw [ZKU c m (o ++ [x]) h1.2, putX, if_pos hx]; simp
  ·have e1 : decide (x.1 ≥ c.1) = true := by simp; omega
   have hne : ∀ y ∈ m, y.1 ≠ c.1 := fun y hy => by have := h1.1 y hy; omega
   simp only [List.foldl_cons, pst, e1, Bool.not_false, Bool.and_self, cond_true, Bool.true_or]
   rw [ZDl c m _ hne, putX, if_neg hx]
   simp only [pfin, Bool.not_true, Bool.false_and, cond_false]
   by_cases hz : c.2 = 0
   ·by_cases hk : x.1 = c.1
    ·simp [hz, hk]
    ·have : (x.1 != c.1) = true := by simpa using hk
     simp [hz, hk, this]
   ·have hz1 : (c.2 != 0) = true := by simpa using hz
    by_cases hk : x.1 = c.1
    ·simp [hz, hk, hz1]
    ·have : (x.1 != c.1) = true := by simpa using hk
     simp [hz, hk, this, hz1]
theorem Zza (c : Cell) : ∀ (m : List Cell) (s : Bool × List Cell), (m.foldl (pst c) s).2.length + (bif (m.foldl (pst c) s).1 then 0 else 1) ≤ s.2.length + (bif s.1 then 0 else 1) + m.length
 | [], s => by simp
 | x :: m, s => by
  rw [List.foldl_cons]
  have ih := Zza c m (pst c s x)
  have : (pst c s x).2.length + (bif (pst c s x).1 then 0 else 1) ≤ s.2.length + (bif s.1 then 0 else 1) + 1 := by
   obtain ⟨d, o⟩ := s
   simp only [pst]
   generalize decide (x.1 ≥ c.1) = b1
   generalize (c.2 != 0) = b2
   generalize (x.1 != c.1) = b3
   cases d <;> cases b1 <;> cases b2 <;> cases b3 <;> simp <;> omega
  simp only [List.length_cons]; omega
theorem ZkM (m : List Cell) (c : Cell) (hv : Vld m) (hm : m.length + 1 ≤ most) : ZoX m c = true ∧ ZFa m c = putX m c := by
 have hms := mst
 obtain ⟨r, hr, h1, i, hR⟩ := Zax (fl := false) (t := ZhF) (fuel := fun a => 1000000000000)
  (fun a => ∃ i : Nat, i ≤ m.length ∧ a = (((m.take i).foldl (pst c) (false, [])).1, m, (m.length : Int), (i : Int), c, ((m.take i).foldl (pst c) (false, [])).2, ()))
  (fun a => Int.toNat (a.2.2.1 - a.2.2.2.1)) (fun r => r.1 = false ∧ ∃ i : Nat, r.2 = ((m.foldl (pst c) (false, [])).1, m, (m.length : Int), (i : Int), c, (m.foldl (pst c) (false, [])).2, ()))
  (by
   rintro a ⟨i, hi, rfl⟩
   by_cases hlt : i < m.length
   ·left
    have d : decide ((i : Int) < (m.length : Int)) = true := by simpa using hlt
    have r1 := Zec m i hlt
    have hl := Zza c (m.take i) (false, [])
    have hs : (m.take (i + 1)).foldl (pst c) (false, []) = pst c ((m.take i).foldl (pst c) (false, [])) (el m i) := by
     rw [Zxt m i hlt, List.foldl_append]; rfl
    rw [List.length_take, Nat.min_eq_left (by omega)] at hl
    refine ⟨_, ?_, ⟨i + 1, hlt, rfl⟩, by simp only; omega⟩
    rw [hs]
    generalize (m.take i).foldl (pst c) (false, []) = s at hl ⊢
    obtain ⟨dn, o⟩ := s
    simp only [List.length_nil, cond_false] at hl
    simp only [ZhF, RT.val, d, r1, ZjB, cond_true, Bool.not_true, Bool.false_or, pst, Zxc i (by omega)]
    generalize decide ((el m i).1 ≥ c.1) = b1
    generalize hb2 : (c.2 != 0) = b2
    generalize hb3 : ((el m i).1 != c.1) = b3
    have l1 : Nat.ble (o ++ [c]).length most = true ∨ dn = true := by
     cases dn with
     | true => exact .inr rfl
     | false => left; rw [Nat.ble_eq]; simp only [cond_false] at hl; simp only [List.length_append, List.length_singleton]; omega
    have l2 : Nat.ble (o ++ [el m i]).length most = true := by
     rw [Nat.ble_eq]; simp only [List.length_append, List.length_singleton]
     cases dn <;> simp only [cond_true, cond_false] at hl <;> omega
    have l3 : Nat.ble (o ++ [c] ++ [el m i]).length most = true ∨ dn = true := by
     cases dn with
     | true => exact .inr rfl
     | false => left; rw [Nat.ble_eq]; simp only [cond_false] at hl; simp only [List.length_append, List.length_singleton]; omega
    cases dn with
    | true =>
     cases b3 <;> simp only [l2, Bool.not_true, Bool.not_false, Bool.false_and, Bool.true_or, Bool.false_or, Bool.or_true, cond_true, cond_false]
    | false =>
     have l1 : Nat.ble (o ++ [c]).length most = true := by simpa using l1
     have l3 : Nat.ble (o ++ [c] ++ [el m i]).length most = true := by simpa using l3
     cases b1 <;> cases b2 <;> cases b3 <;> simp only [l1, l2, l3, Bool.not_true, Bool.not_false, Bool.false_and, Bool.true_and, Bool.true_or, Bool.false_or, Bool.or_true, Bool.or_false, Bool.and_self, cond_true, cond_false]
   ·right; left
    have d : decide ((i : Int) < (m.length : Int)) = false := by simpa using hlt
    have e : m.take i = m := List.take_of_length_le (by omega)
    rw [e]
    exact ⟨_, by simp only [ZhF, RT.val, d, cond_false], rfl, i, rfl⟩)
  (false, m, iN m.length, 0, c, [], ()) ⟨0, Nat.zero_le _, rfl⟩ (by simp only [iN]; omega)
 have hl := Zza c m (false, [])
 have hp := ZKU c m [] hv.1
 simp only [List.nil_append] at hp
 obtain ⟨r1, r2⟩ := r
 simp only at h1 hR
 subst h1 hR
 generalize m.foldl (pst c) (false, []) = s at hl hp hr
 obtain ⟨dn, o⟩ := s
 have hb : (!(!dn && c.2 != 0) || Nat.ble (o ++ [c]).length most) = true := by
  cases dn with
  | true => rfl
  | false =>
   have : Nat.ble (o ++ [c]).length most = true := by rw [Nat.ble_eq]; simp only [cond_false, List.length_nil] at hl; simp only [List.length_append, List.length_singleton]; omega
   rw [this]; simp
 have hv : (ZoW m c).val = some (putX m c) := by
  simp only [ZoW, RT.val, hr, okB, getO, cond_true, hb, ← hp, pfin]
 exact ⟨by simp only [ZoX, hv]; rfl, by simp only [ZFa, hv, getO]⟩
theorem ZrL (c : Cell) : ∀ m : List Cell, (putX m c).length ≤ m.length + 1
 | [] => by simp only [putX]; split <;> simp
 | x :: m => by
  have := ZrL c m
  simp only [putX]
  repeat' split
  all_goals simp only [List.length_cons]; omega
theorem Zpu (l : List Cell) (c : Cell) : normX (l ++ [c]) = putX (normX l) c := by simp [normX, List.foldl_append]
theorem ZEr : ∀ (l m : List Cell), (l.foldl putX m).length ≤ m.length + l.length
 | [], m => by simp
 | x :: l, m => by
  have := ZEr l (putX m x)
  have := ZrL x m
  simp only [List.foldl_cons, List.length_cons]; omega
theorem ZdJ (l : List Cell) : (normX l).length ≤ l.length := by
 have := ZEr l []
 simpa [normX] using this
theorem ZkP (l : List Cell) (hl : l.length + 1 ≤ most) : Zo2 l = true ∧ ZFd l = normX l := by
 have hms := mst
 have h1 := ZoG l (by omega)
 have hc : Ziz l = true := by simp only [Ziz, h1]; rfl
 have hv0 : Zk0 l = vldB l := by simp only [Zk0, h1, getO]
 have hv : (Zo1 l).val = some (normX l) := by
  cases hb : vldB l with
  | true =>
   have e : Nat.ble l.length most = true := by rw [Nat.ble_eq]; omega
   simp only [Zo1, RT.val, hc, hv0, hb, List.nil_append, e, cond_true, Bool.not_true, Bool.false_or, Zpv (ZBM.1 hb)]
  | false =>
   obtain ⟨r, hr, h1, i, hR⟩ := Zax (fl := false) (t := ZhI) (fuel := fun a => 1000000000000)
    (fun a => ∃ i : Nat, i ≤ l.length ∧ a = (normX (l.take i), l, (l.length : Int), (i : Int), ()))
    (fun a => Int.toNat (a.2.2.1 - a.2.2.2.1)) (fun r => r.1 = false ∧ ∃ i : Nat, r.2 = (normX l, l, (l.length : Int), (i : Int), ()))
    (by
     rintro a ⟨i, hi, rfl⟩
     by_cases hlt : i < l.length
     ·left
      have d : decide ((i : Int) < (l.length : Int)) = true := by simpa using hlt
      have r1 := Zec l i hlt
      have hlen := ZdJ (l.take i)
      rw [List.length_take] at hlen
      have hp := ZkM (normX (l.take i)) (el l i) (Zh1 _) (by omega)
      refine ⟨_, ?_, ⟨i + 1, hlt, rfl⟩, by simp only; omega⟩
      rw [Zxt l i hlt, Zpu]
      simp only [ZhI, RT.val, d, r1, ZjB, hp.1, hp.2, cond_true, Bool.or_true, Zxc i (by omega)]
     ·right; left
      have d : decide ((i : Int) < (l.length : Int)) = false := by simpa using hlt
      have e : l.take i = l := List.take_of_length_le (by omega)
      rw [e]
      exact ⟨_, by simp only [ZhI, RT.val, d, cond_false], rfl, i, rfl⟩)
    ([], l, iN l.length, 0, ()) ⟨0, Nat.zero_le _, rfl⟩ (by simp only [iN]; omega)
   obtain ⟨r1, r2⟩ := r
   simp only at h1 hR
   subst h1 hR
   simp only [Zo1, RT.val, hc, hv0, hb, hr, okB, getO, cond_true, cond_false, Bool.not_false, Bool.true_or]
 exact ⟨by simp only [Zo2, hv]; rfl, by simp only [ZFd, hv, getO]⟩
theorem ZON (m : List Cell) (t v : Int) (hm : m.length + 1 ≤ most) : ZCG m t v = true ∧ ZO6 m t v = putX (normX m) (t, v) := by
 have h1 := ZkP m hm
 have h2 := ZkM (normX m) (t, v) (Zh1 m) (by have := ZdJ m; omega)
 have hv : (Zu7 m t v).val = some (putX (normX m) (t, v)) := by
  simp only [Zu7, RT.val, h1.1, h1.2, h2.1, h2.2, cond_true, Bool.or_true]
 exact ⟨by simp only [ZCG, hv]; rfl, by simp only [ZO6, hv, getO]⟩
end
end Go.Proofs.YtghoimllhpjkjaaGreat
open Go Go.S3 Go.Proofs Go.Proofs.Cells
set_option linter.unusedVariables false
set_option linter.unusedSimpArgs false
set_option maxRecDepth 100000
namespace Go.Proofs.YtghoimllhpjkjaaGreat
noncomputable section
end
end Go.Proofs.YtghoimllhpjkjaaGreat
open Go.IntKind (u8 u16 i64)
open Go Go.S3 Go.Proofs Go.Proofs.Cells
set_option linter.unusedVariables false
set_option linter.unusedSimpArgs false
set_option maxRecDepth 100000
namespace Go.Proofs.YtghoimllhpjkjaaGreat
noncomputable section
abbrev BR : R := R.int u8
theorem get_d (l : List Int) (i : Nat) : R.get BR l (i : Int) = l.getD i 0 := by simp [R.get, R.dflt]
def ZnB (t : Int) (b : List Int) (n : Nat) : List Cell := (List.range n).map fun i : Nat => (IntKind.wrap .u16 (t + IntKind.wrap .u16 (i : Int)), b.getD i 0)
theorem ZHr (t : Int) (b : List Int) (n : Nat) : ZnB t b (n + 1) = ZnB t b n ++ [(IntKind.wrap .u16 (t + IntKind.wrap .u16 (n : Int)), b.getD n 0)] := by simp [ZnB, List.range_succ]
theorem ZnA (t : Int) (b : List Int) (n : Nat) : (ZnB t b n).length = n := by simp [ZnB]
def Zoe (t : Int) (b : List Int) : List Cell := normX (ZnB t b b.length)
theorem ZI6 (m : List Cell) (hm : m.length ≤ most) : Ziz m = true ∧ Zk0 m = vldB m := by
 have h := ZoG m hm
 exact ⟨by simp only [Ziz, h]; rfl, by simp only [Zk0, h, getO]⟩
theorem ZSN (m : List Cell) (t : Int) (hm : m.length ≤ most) : ZCZ m t = true ∧ ZPk m t = getX m t := by
 have h := ZOQ m t hm
 exact ⟨by simp only [ZCZ, h]; rfl, by simp only [ZPk, h, getO]⟩
abbrev GR : R := R.pair (R.int u16) (R.pair (R.int u16) (R.pair R.bool (R.int i64)))
def hitB (t : Int) (r : Zah) : Bool := decide (r.1 ≤ t) && decide (t ≤ r.2.1)
def ZbW (l : List Zah) (t : Int) : Int := if l.findIdx (hitB t) < l.length then (l.findIdx (hitB t) : Int) else -1
def rg (l : List Zah) (i : Nat) : Zah := l.getD i (0, 0, false, 0)
theorem ZSh (l : List Zah) (i : Nat) : R.get GR l (i : Int) = rg l i := by simp [R.get, R.dflt, rg]
theorem ZuG (l : List Zah) (i : Nat) (h : i < l.length) : l[i] = rg l i := by simp [rg, h]
theorem ZUD {l : List Zah} {t : Int} {i : Nat} (hi : i < l.length) (h : hitB t (rg l i) = true) (hk : ∀ k, k < i → hitB t (rg l k) = false) : ZbW l t = i := by
 have : l.findIdx (hitB t) = i := (List.findIdx_eq hi).2 ⟨by rw [ZuG l i hi]; exact h, fun j hj => by rw [ZuG l j (by omega)]; exact hk j hj⟩
 simp only [ZbW, this, hi, if_true]
theorem ZUC {l : List Zah} {t : Int} (hk : ∀ k, k < l.length → hitB t (rg l k) = false) : ZbW l t = -1 := by
 have : ¬ l.findIdx (hitB t) < l.length := by
  rw [List.findIdx_lt_length]
  rintro ⟨x, hx, hp⟩
  obtain ⟨i, hi, rfl⟩ := List.mem_iff_getElem.1 hx
  rw [ZuG l i hi, hk i hi] at hp
  exact absurd hp (by simp)
 simp only [ZbW, this, if_false]
theorem ZkQ (l : List Zah) (t : Int) (hl : l.length ≤ most) : Zo6 l t = true ∧ ZjR l t = ZbW l t := by
 have hms := mst
 obtain ⟨r, hr, hR⟩ := Zax (fl := true) (t := Zgj) (fuel := fun _ => 1000000000000)
  (fun x => ∃ i : Nat, i ≤ l.length ∧ (∀ k, k < i → hitB t (rg l k) = false) ∧ x = (t, 0, l, (l.length : Int), (i : Int), ()))
  (fun x => Int.toNat (x.2.2.2.1 - x.2.2.2.2.1)) (fun r => (r.1 = false ∧ ZbW l t = -1) ∨ (r.1 = true ∧ r.2.2.1 = ZbW l t))
  (by
   rintro x ⟨i, hi, hk, rfl⟩
   by_cases hlt : i < l.length
   ·have d : decide ((i : Int) < (l.length : Int)) = true := by simpa using hlt
    have r1 := Zec l i hlt
    have g1 := ZSh l i
    cases hh : hitB t (rg l i) with
    | false =>
     left
     refine ⟨(t, 0, l, (l.length : Int), ((i + 1 : Nat) : Int), ()), ?_, ⟨i + 1, hlt, fun k hk' => ?_, rfl⟩, by simp only; omega⟩
     ·simp only [hitB] at hh
      simp only [Zgj, RT.val, d, r1, g1, hh, cond_true, cond_false, Zxc i (by omega)]
     ·by_cases e : k = i
      ·subst e; exact hh
      ·exact hk k (by omega)
    | true =>
     right; right
     refine ⟨(t, (i : Int), l, (l.length : Int), (i : Int), ()), rfl, ?_, .inr ⟨rfl, (ZUD hlt hh hk).symm⟩⟩
     simp only [hitB] at hh
     simp only [Zgj, RT.val, d, r1, g1, hh, cond_true]
   ·right; left
    have d : decide ((i : Int) < (l.length : Int)) = false := by simpa using hlt
    exact ⟨_, by simp only [Zgj, RT.val, d, cond_false]; rfl, .inl ⟨rfl, ZUC fun k h => hk k (by omega)⟩⟩)
  (t, 0, l, iN l.length, 0, ()) ⟨0, Nat.zero_le _, fun k h => by omega, rfl⟩ (by simp only [iN]; omega)
 have hv : (Zo5 l t).val = some (ZbW l t) := by
  rcases hR with ⟨h1, h2⟩ | ⟨h1, h2⟩
  ·simp only [Zo5, RT.val, hr, okB, getO, cond_true, h1, cond_false, h2]
  ·simp only [Zo5, RT.val, hr, okB, getO, cond_true, h1, h2]
 exact ⟨by simp only [Zo6, hv]; rfl, by simp only [ZjR, hv, getO]⟩
def ZoJ (l : List Zah) (m : List Cell) (t : Int) : Int := bif decide (ZbW l t < 0) then 255 else getX m t
theorem ZJc (l : List Zah) (m : List Cell) (t : Int) (hl : l.length ≤ most) (hm : m.length ≤ most) : ZxV l m t = true ∧ ZJC l m t = ZoJ l m t := by
 have h1 := ZkQ l t hl
 have h2 := ZSN m t hm
 have hv : (Zk6 l m t).val = some (ZoJ l m t) := by
  simp only [Zk6, RT.val, h1.1, h1.2, h2.1, h2.2, cond_true, ZoJ]
  cases decide (ZbW l t < 0) <;> rfl
 exact ⟨by simp only [ZxV, hv]; rfl, by simp only [ZJC, hv, getO]⟩
end
end Go.Proofs.YtghoimllhpjkjaaGreat
