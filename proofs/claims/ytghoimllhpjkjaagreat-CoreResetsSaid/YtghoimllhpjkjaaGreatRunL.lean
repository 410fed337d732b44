/-
  Contracts of functions; each found by the symbolic executor and checked by the kernel. Conditions: none.
-/
import Derived.Test.YtghoimllhpjkjaaGreatMemD
import Derived.RangeFuncNested
import Derived.RangeFuncLeaves
import Derived.Shelf.Abstract
import Derived.WalkKit
import Derived.OwnWalkIn
import Derived.TacticsInMore
import Derived.LoopNIn
import Derived.LoopIn
import Derived.Test.YtghoimllhpjkjaaGreatS3D
import Derived.Test.YtghoimllhpjkjaaGreatProg
import Derived.Test.YtghoimllhpjkjaaGreatS3Clo
import Derived.Test.YtghoimllhpjkjaaGreatMake
import Derived.Test.YtghoimllhpjkjaaGreatMakeOk5
import Derived.Test.YtghoimllhpjkjaaGreatS3Box1
import Derived.Test.YtghoimllhpjkjaaGreatPicL
set_option linter.unusedVariables false
set_option linter.unusedSimpArgs false
namespace Go.Proofs.YtghoimllhpjkjaaGreat
open Go Go.S3 Go.Proofs Go.Proofs.Cells Go.RowKit Go.Shelf
attribute [local go_sem] Oper.semAt_some
noncomputable section
def Held (n₀ : Nat) (W : World) (sv : Value) (l : List Cell) : Prop :=
 (∃ a cap, sv = .slice a 0 cap ∧ l = []) ∨ ∃ b off cap, sv = .slice (some ⟨b, off, none⟩) l.length cap ∧ b < n₀ ∧
  ∀ j, j < l.length → W.cell? ⟨b, off + j * 2, none⟩ = some (.int .u16 (el l j).1) ∧ W.cell? ⟨b, off + j * 2 + 1, none⟩ = some (.int .u8 (el l j).2)
theorem Held.mono {n₀ n₁ : Nat} {W : World} {sv : Value} {l : List Cell} (h : Held n₀ W sv l) (hn : n₀ ≤ n₁) : Held n₁ W sv l :=
 h.elim .inl fun ⟨b, off, cap, e, hb, hc⟩ => .inr ⟨b, off, cap, e, by omega, hc⟩
end
end Go.Proofs.YtghoimllhpjkjaaGreat
set_option linter.unusedVariables false
set_option linter.unusedSimpArgs false
namespace Go.Proofs.YtghoimllhpjkjaaGreat
open Go Go.S3 Go.Proofs Go.Proofs.Cells Go.RowKit Go.Shelf
attribute [local go_sem] Oper.semAt_some
noncomputable section
end
end Go.Proofs.YtghoimllhpjkjaaGreat
set_option linter.unusedSimpArgs false
open Go Go.S3 Go.Proofs
set_option linter.unusedVariables false
set_option maxRecDepth 100000
namespace Go.Proofs.YtghoimllhpjkjaaGreat
noncomputable section
end
end Go.Proofs.YtghoimllhpjkjaaGreat
open Go Go.S3 Go.Proofs Go.Proofs.Cells
set_option linter.unusedVariables false
set_option linter.unusedSimpArgs false
set_option maxRecDepth 100000
namespace Go.Proofs.YtghoimllhpjkjaaGreat
noncomputable section
end
end Go.Proofs.YtghoimllhpjkjaaGreat
open Go.IntKind (u8 u16 i64)
set_option linter.unusedSimpArgs false
open Go Go.S3 Go.Proofs
set_option linter.unusedVariables false
set_option maxRecDepth 100000
namespace Go.Proofs.YtghoimllhpjkjaaGreat
noncomputable section
abbrev ZCQ : List Sh := [Sh.one (R.int i64)]
abbrev ZCR : Rs := Rs.one (Sh.one (R.int i64))
def ZJ9 (n : Int) : RT (Int) :=
 .leaf (if (if 100 < n then 100 else n) > 0 then if 100 < n then 100 else n else 0)
def ZKa (n : Int) : Int := (ZJ9 n).val
def ZyM : Entry := Zf ZCQ ZCR (fun _ => none) (fun a => ZKa a)
theorem Zvi : Zc Tryz.prog 301 ZyM :=
 pureQ 7 [] [] ZCQ ZCR trivial Tryz.func301 Tryz.call301 trivial (t := fun a => ZJ9 a) (fun a => by kernel_rfl)
abbrev Zqo : List Sh := [Sh.one rcRG, Sh.one (R.int u16)]
abbrev Zj2 : Rs := Rs.one (Sh.one (R.int i64))
def ZkX (l : List (QT9)) (t : Int) : RT (Option (Int)) :=
 .br (Zo6 l t) (.br (!decide (ZjR l t ≥ 0) || Zg (ZjR l t) (List.length l)) (.br (decide (ZjR l t ≥ 0)) (.leaf (some (ZKa (R.get (R.pair (R.int u16) (R.pair (R.int u16) (R.pair R.bool (R.int i64)))) l (ZjR l t)).2.2.2))) (.leaf (some (0)))) (.leaf none)) (.leaf none)
def ZJm (l : List (QT9)) (t : Int) : Int := getO Zj2.dflt (ZkX l t).val
def ZxK (l : List (QT9)) (t : Int) : Bool := okB (ZkX l t).val
def ZSQ : Entry := Zf Zqo Zj2 (fun a => some (ZxK a.1 a.2)) (fun a => ZJm a.1 a.2)
theorem ZJl : Zc Tryz.prog 300 ZSQ :=
 pureP 63 [(43, ZC3), (301, ZyM)] [] Zqo Zj2 ⟨ZqY, Zvi, trivial⟩ Tryz.func300 Tryz.call300 trivial (t := fun a => ZkX a.1 a.2) (fun a => by kernel_rfl)
abbrev ZkZ : List Sh := [Sh.one rcRG]
abbrev Zhx : Rs := Rs.one (Sh.one (R.int i64))
def ZE2 : LS := { n := 30, slots := [(2, .code (Sh.one (R.int i64))), (8, .code (Sh.one rcRG)), (9, .code (Sh.one (R.int i64))), (10, .code (Sh.one (R.int i64)))], boxes := [], stgs := [] }
def Zdr (a : QT24) : RT (Option (Go1 (QT24))) :=
 let x1 : QT9 := R.get (R.pair (R.int u16) (R.pair (R.int u16) (R.pair R.bool (R.int i64)))) a.2.1 a.2.2.2.1
 let x2 := x1.2
 let x3 := x2.2.2
 let x4 : List (QT9) × Int × Int × PUnit := (a.2.1, a.2.2.1, a.2.2.2.1, PUnit.unit)
 .br (decide (a.2.2.2.1 < a.2.2.1)) (.br (Zg a.2.2.2.1 (List.length a.2.1)) (.br (decide (x2.1 < x1.1) || (decide (x3 < 0) || decide (x3 > 100))) (.leaf (some (Go1.ret (1, x4)))) (.leaf (some (Go1.cont (a.1, a.2.1, a.2.2.1, i64.wrap (a.2.2.2.1 + 1), PUnit.unit))))) (.leaf none)) (.leaf (some (Go1.brk (a.1, x4))))
def ZoM : Ora := ZdV true ZE2 Zdr (fun a => 1000000000000)
theorem ZuP : ZcS (envX Tryz.prog [] [] 31 8) (.block 0 (.loop (Zbc Tryz.f247.body 0))) ZoM :=
 Zaa (Zag (l := []) trivial [] 31 8) (ZO (by kernel_rfl)) (fun a => by kernel_rfl)
def ZeR (l : List (QT9)) : RT (Option (Int)) :=
 let x1 := runF true Zdr (fun a => 1000000000000) (0, l, iN (List.length l), 0, ())
 let x2 := getO (false, 0, l, iN (List.length l), 0, ()) x1
 .br (decide (iN (List.length l) > 16)) (.leaf (some (3))) (.br (okB x1) (.br x2.1 (.leaf (some x2.2.1)) (.leaf (some (0)))) (.leaf none))
def ZxM (l : List (QT9)) : Int := getO Zhx.dflt (ZeR l).val
def Zqr (l : List (QT9)) : Bool := okB (ZeR l).val
def ZOW : Entry := Zf ZkZ Zhx (fun a => some (Zqr a)) (fun a => ZxM a)
theorem ZE1 : Zc Tryz.prog 247 ZOW :=
 pureP 31 [] [(0, ZoM)] ZkZ Zhx trivial Tryz.func247 Tryz.call247 ⟨ZuP, trivial⟩ (t := fun a => ZeR a) (fun a => by kernel_rfl)
end
end Go.Proofs.YtghoimllhpjkjaaGreat
open Go Go.S3 Go.Proofs Go.Proofs.Cells
set_option linter.unusedVariables false
set_option linter.unusedSimpArgs false
set_option maxRecDepth 100000
namespace Go.Proofs.YtghoimllhpjkjaaGreat
noncomputable section
def sm {α : Type} (l : List α) : Bool := Nat.ble (l.length + 1) most
def smC (l : List (Int × Int)) : Bool := sm l
def smB (l : List Int) : Bool := sm l
def smG (l : List Zah) : Bool := sm l
theorem ZuB {α : Type} {l : List α} : sm l = true ↔ l.length + 1 ≤ most := by simp [sm]
theorem ZEQ {α : Type} {l : List α} (h : sm l = true) : l.length ≤ most := by have := ZuB.1 h; omega
theorem ZQy (l : List Zah) (t : Int) : -1 ≤ ZbW l t ∧ (ZbW l t < 0 ∨ ∃ i : Nat, i < l.length ∧ ZbW l t = i) := by
 unfold ZbW
 split
 ·rename_i h; exact ⟨by omega, .inr ⟨_, h, rfl⟩⟩
 ·exact ⟨by omega, .inl (by omega)⟩
theorem ZwT (l : List Zah) (t : Int) (h : 0 ≤ ZbW l t) : Zg (ZbW l t) l.length = true := by
 rcases (ZQy l t).2 with h1 | ⟨i, hi, e⟩
 ·omega
 ·rw [e]; exact Zec l i hi
def Zeb (l : List Zah) (m : List Cell) (t v : Int) : List Cell := bif decide (ZbW l t ≥ 0) && (R.get GR l (ZbW l t)).2.2.1 then putX (normX m) (t, v) else normX m
def limX (n : Int) : Int := if (if 100 < n then 100 else n) > 0 then if 100 < n then 100 else n else 0
def Zt6 (l : List Zah) (t : Int) : Int := bif decide (ZbW l t ≥ 0) then limX (R.get GR l (ZbW l t)).2.2.2 else 0
theorem ZER (l : List Zah) (m : List Cell) (t v : Int) (hl : l.length ≤ most) (hm : m.length + 1 ≤ most) : Zqn l m t v = true ∧ ZxJ l m t v = Zeb l m t v := by
 have h1 := ZkQ l t hl
 have h2 := ZON m t v hm
 have h3 := ZkP m hm
 have hv : (Zhv l m t v).val = some (Zeb l m t v) := by
  have hr : (!decide (ZbW l t ≥ 0) || Zg (ZbW l t) l.length) = true := by
   by_cases h : 0 ≤ ZbW l t
   ·rw [ZwT l t h]; simp
   ·have : decide (ZbW l t ≥ 0) = false := by simp; omega
    rw [this]; rfl
  simp only [Zhv, RT.val, h1.1, h1.2, h2.1, h2.2, h3.1, h3.2, hr, Bool.or_true, cond_true, Zeb]
  cases decide (ZbW l t ≥ 0) && (R.get GR l (ZbW l t)).2.2.1 <;> rfl
 exact ⟨by simp only [Zqn, hv]; rfl, by simp only [ZxJ, hv, getO]⟩
theorem ZES (l : List Zah) (t : Int) (hl : l.length ≤ most) : ZxK l t = true ∧ ZJm l t = Zt6 l t := by
 have h1 := ZkQ l t hl
 have hv : (ZkX l t).val = some (Zt6 l t) := by
  have hr : (!decide (ZbW l t ≥ 0) || Zg (ZbW l t) l.length) = true := by
   by_cases h : 0 ≤ ZbW l t
   ·rw [ZwT l t h]; simp
   ·have : decide (ZbW l t ≥ 0) = false := by simp; omega
    rw [this]; rfl
  simp only [ZkX, RT.val, h1.1, h1.2, hr, cond_true, Zt6]
  cases decide (ZbW l t ≥ 0) <;> rfl
 exact ⟨by simp only [ZxK, hv]; rfl, by simp only [ZJm, hv, getO]⟩
def badR (r : Zah) : Bool := decide (r.2.1 < r.1) || (decide (r.2.2.2 < 0) || decide (r.2.2.2 > 100))
def ZeO (l : List Zah) : Int := bif decide (iN l.length > 16) then 3 else bif l.any badR then 1 else 0
theorem ZxB (l : List Zah) (hl : l.length ≤ most) : Zqr l = true ∧ ZxM l = ZeO l := by
 have hms := mst
 obtain ⟨r, hr, hR⟩ := Zax (fl := true) (t := Zdr) (fuel := fun _ => 1000000000000)
  (fun x => ∃ i : Nat, i ≤ l.length ∧ (∀ k, k < i → badR (rg l k) = false) ∧ x = (0, l, (l.length : Int), (i : Int), ()))
  (fun x => Int.toNat (x.2.2.1 - x.2.2.2.1)) (fun r => (r.1 = false ∧ l.any badR = false) ∨ (r.1 = true ∧ l.any badR = true ∧ r.2.1 = 1))
  (by
   rintro x ⟨i, hi, hk, rfl⟩
   by_cases hlt : i < l.length
   ·have d : decide ((i : Int) < (l.length : Int)) = true := by simpa using hlt
    have r1 := Zec l i hlt
    have g1 := ZSh l i
    cases hh : badR (rg l i) with
    | false =>
     left
     refine ⟨(0, l, (l.length : Int), ((i + 1 : Nat) : Int), ()), ?_, ⟨i + 1, hlt, fun k hk' => ?_, rfl⟩, by simp only; omega⟩
     ·simp only [badR] at hh
      simp only [Zdr, RT.val, d, r1, g1, hh, cond_true, cond_false, Zxc i (by omega)]
     ·by_cases e : k = i
      ·subst e; exact hh
      ·exact hk k (by omega)
    | true =>
     right; right
     refine ⟨(1, l, (l.length : Int), (i : Int), ()), rfl, ?_, .inr ⟨rfl, List.any_eq_true.2 ⟨rg l i, ?_, hh⟩, rfl⟩⟩
     ·simp only [badR] at hh
      simp only [Zdr, RT.val, d, r1, g1, hh, cond_true]
     ·rw [← ZuG l i hlt]; exact List.getElem_mem hlt
   ·right; left
    have d : decide ((i : Int) < (l.length : Int)) = false := by simpa using hlt
    refine ⟨_, by simp only [Zdr, RT.val, d, cond_false]; rfl, .inl ⟨rfl, ?_⟩⟩
    rw [List.any_eq_false]
    intro q hq
    obtain ⟨k, hk', rfl⟩ := List.mem_iff_getElem.1 hq
    rw [ZuG l k hk', hk k (by omega)]; simp)
  (0, l, iN l.length, 0, ()) ⟨0, Nat.zero_le _, fun k h => by omega, rfl⟩ (by simp only [iN]; omega)
 have hv : (ZeR l).val = some (ZeO l) := by
  cases hd : decide (iN l.length > 16) with
  | true => simp only [ZeR, RT.val, hd, cond_true, ZeO]
  | false =>
   rcases hR with ⟨h1, h2⟩ | ⟨h1, h2, h3⟩
   ·simp only [ZeR, RT.val, hd, hr, okB, getO, cond_true, cond_false, h1, h2, ZeO]
   ·simp only [ZeR, RT.val, hd, hr, okB, getO, cond_true, cond_false, h1, h2, h3, ZeO]
 exact ⟨by simp only [Zqr, hv]; rfl, by simp only [ZxM, hv, getO]⟩
theorem ZEO {P : Program} {f : FuncId} {ts : List Sh} {rs : Rs} {C : HL ts → Bool} {F G : HL ts → rs.den} (h : Zc P f (Zf ts rs (fun a => some (C a)) F)) {pre : HL ts → Bool} (hp : ∀ a, pre a = true → C a = true ∧ F a = G a) :
  Zc P f (Zf ts rs (fun a => some (pre a)) G) := by
 have key : ∀ a, some (pre a) ≠ some false → pre a = true := fun a h => by cases hq : pre a with
  | true => rfl
  | false => rw [hq] at h; exact absurd rfl h
 exact h.pure_congr (fun a _ hq => by rw [(hp a (key a hq)).1]; simp) (fun a _ hq => (hp a (key a hq)).2)
def Zhy : Entry := Zf Zqq Zj3 (fun a => some (smC a)) (fun a => vldB a)
theorem ZiA : Zc Tryz.prog 44 Zhy := ZEO ZkY fun a h => ZI6 a (ZEQ h)
def Zla : Entry := Zf Zx6 ZqI (fun a => some (smC a)) (fun a => normX a)
theorem Zk9 : Zc Tryz.prog 92 Zla := ZEO ZqH fun a h => ZkP a (ZuB.1 h)
def ZCz : Entry := Zf Zqz Zj6 (fun a => some (smG a.1 && smC a.2.1)) (fun a => ZoJ a.1 a.2.1 a.2.2)
theorem ZE7 : Zc Tryz.prog 102 ZCz := ZEO ZJB fun a h => by rw [Bool.and_eq_true] at h; exact ZJc a.1 a.2.1 a.2.2 (ZEQ h.1) (ZEQ h.2)
def ZkW : Entry := Zf ZkU Zhw (fun a => some (smG a.1 && smC a.2.1)) (fun a => Zeb a.1 a.2.1 a.2.2.1 a.2.2.2)
theorem ZkV : Zc Tryz.prog 101 ZkW := ZEO ZEY fun a h => by rw [Bool.and_eq_true] at h; exact ZER a.1 a.2.1 a.2.2.1 a.2.2.2 (ZEQ h.1) (ZuB.1 h.2)
def ZCj : Entry := Zf Zqo Zj2 (fun a => some (smG a.1)) (fun a => Zt6 a.1 a.2)
theorem ZEZ : Zc Tryz.prog 300 ZCj := ZEO ZJl fun a h => ZES a.1 a.2 (ZEQ h)
def ZuQ : Entry := Zf ZkZ Zhx (fun a => some (smG a)) (fun a => ZeO a)
theorem ZxL : Zc Tryz.prog 247 ZuQ := ZEO ZE1 fun a h => ZxB a (ZEQ h)
end
end Go.Proofs.YtghoimllhpjkjaaGreat
open Go.IntKind (u8 u16 i64)
set_option linter.unusedSimpArgs false
open Go Go.S3 Go.Proofs
set_option linter.unusedVariables false
set_option maxRecDepth 100000
namespace Go.Proofs.YtghoimllhpjkjaaGreat
noncomputable section
abbrev ZBH : List Sh := [Sh.one (R.int u8), Sh.one (R.int u8), Sh.one (R.int u8)]
abbrev ZBI : Rs := Rs.one (Sh.one (R.int u8))
def ZIe (a : Int) (b : Int) (c : Int) : RT (Int) :=
 .leaf (xorI u8 (xorI u8 (xorI u8 a b) c) 165)
def ZBJ (a : Int) (b : Int) (c : Int) : Int := (ZIe a b c).val
def ZgR : Entry := Zf ZBH ZBI (fun _ => none) (fun a => ZBJ a.1 a.2.1 a.2.2)
theorem Zhm : Zc Tryz.prog 134 ZgR :=
 pureQ 127 [] [] ZBH ZBI trivial Tryz.func134 Tryz.call134 trivial (t := fun a => ZIe a.1 a.2.1 a.2.2) (fun a => by kernel_rfl)
abbrev ZQP : List Sh := [Sh.one R.bool, Sh.one (R.int i64)]
abbrev ZIk : Rs := Rs.one (Sh.one (R.int u8))
def ZOq (o : Bool) (n : Int) : RT (Option (Int)) :=
 .br (!o || decide (0 ≤ n)) (.br (o) (.leaf (some (shlI u8 1 n))) (.leaf (some (0)))) (.leaf none)
def wBit (o : Bool) (n : Int) : Int := getO ZIk.dflt (ZOq o n).val
def Zkx (o : Bool) (n : Int) : Bool := okB (ZOq o n).val
def ZOr : Entry := Zf ZQP ZIk (fun a => some (Zkx a.1 a.2)) (fun a => wBit a.1 a.2)
theorem ZIj : Zc Tryz.prog 133 ZOr :=
 pureP 31 [] [] ZQP ZIk trivial Tryz.func133 Tryz.call133 trivial (t := fun a => ZOq a.1 a.2) (fun a => by kernel_rfl)
abbrev ZIb : List Sh := []
abbrev ZIc : Rs := Rs.one (Sh.agg Zdi)
def ZQN : RT INPT :=
 .leaf ((true, false, false, false, false, false, false, false, 0, 0))
def ZS : INPT := (ZQN ).val
def Zuc : Entry := Zf ZIb ZIc (fun _ => none) (fun a => ZS )
theorem ZpV : Zc Tryz.prog 190 Zuc :=
 pureQ 1 [] [] ZIb ZIc trivial Tryz.func190 Tryz.call190 trivial (t := fun a => ZQN ) (fun a => by kernel_rfl)
abbrev Zug : List Sh := [Sh.one (R.sl (R.int u8))]
abbrev Zku : Rs := Rs.one (Sh.one (R.sl Zdi))
def ZEJ : LS := { n := 83, slots := [(0, .code (Sh.one (R.sl (R.int u8)))), (3, .tip 0), (4, .code (Sh.one (R.int i64)))], boxes := [], stgs := [⟨Zdi, 195, true⟩] }
def Zcv (a : List Int × Int × List INPT × PUnit) : RT (Option (Go1 (List Int × Int × List INPT × PUnit))) :=
 let x1 := !Zg (i64.wrap (a.2.1 + 1)) (List.length a.1) || Zg (i64.wrap (a.2.1 + 2)) (List.length a.1)
 let x2 := !Zg (i64.wrap (a.2.1 + 3)) (List.length a.1) || x1
 let x3 := !x2
 let x4 := !Zg (i64.wrap (a.2.1 + 3)) (List.length a.1) || Zg (i64.wrap (a.2.1 + 1)) (List.length a.1)
 let x5 := !x4
 let p1 := (!Zg (i64.wrap (a.2.1 + 3)) (List.length a.1)) :: x5 :: x3 :: (!Zg a.2.1 (List.length a.1)) :: []
 let x6 := R.get (R.int u8) a.1 (i64.wrap (a.2.1 + 3)) != ZBJ (R.get (R.int u8) a.1 a.2.1) (R.get (R.int u8) a.1 (i64.wrap (a.2.1 + 1))) (R.get (R.int u8) a.1 (i64.wrap (a.2.1 + 2)))
 let x7 := !x6 || Nat.ble (List.length (a.2.2.1 ++ [ZS])) most
 let x8 := !x7
 let p2 := x6 :: x8 :: p1
 let x9 : List INPT := a.2.2.1 ++ [(andI u8 (R.get (R.int u8) a.1 a.2.1) 1 == 0, andI u8 (R.get (R.int u8) a.1 a.2.1) 2 != 0, andI u8 (R.get (R.int u8) a.1 a.2.1) 4 != 0, andI u8 (R.get (R.int u8) a.1 a.2.1) 8 != 0, andI u8 (R.get (R.int u8) a.1 a.2.1) 16 != 0, andI u8 (R.get (R.int u8) a.1 a.2.1) 32 != 0, andI u8 (R.get (R.int u8) a.1 a.2.1) 64 != 0, andI u8 (R.get (R.int u8) a.1 a.2.1) 128 != 0, R.get (R.int u8) a.1 (i64.wrap (a.2.1 + 1)), R.get (R.int u8) a.1 (i64.wrap (a.2.1 + 2)))]
 let x10 := !Zg (i64.wrap (a.2.1 + 1)) (List.length a.1) || (!Zg (i64.wrap (a.2.1 + 2)) (List.length a.1) || Nat.ble (List.length x9) most)
 let x11 := !x10
 let p3 := x11 :: p2
 let p4 := (!x1) :: p3
 .br (decide (i64.wrap (a.2.1 + 4) ≤ iN (List.length a.1)) && decide (iN (List.length a.2.2.1) < 65536)) (.br (orR p4 (Zg (i64.wrap (a.2.1 + 1)) (List.length a.1))) (.br (orR p3 x1) (.br (orR p2 x10) (.br (orR p1 x7) (.br (!Zg a.2.1 (List.length a.1) || (x3 || (x5 || Zg (i64.wrap (a.2.1 + 3)) (List.length a.1)))) (.br (!Zg a.2.1 (List.length a.1) || (x3 || x4)) (.br (!Zg a.2.1 (List.length a.1) || x2) (.br (Zg a.2.1 (List.length a.1)) (.leaf (some (Go1.cont (a.1, i64.wrap (a.2.1 + 4), bif x6 then a.2.2.1 ++ [ZS] else x9, PUnit.unit)))) (.leaf none)) (.leaf none)) (.leaf none)) (.leaf none)) (.leaf none)) (.leaf none)) (.leaf none)) (.leaf none)) (.leaf (some (Go1.brk (a.1, a.2.1, a.2.2.1, PUnit.unit))))
def Zoo : Ora := ZdV false ZEJ Zcv (fun a => 1000000000000)
theorem Zuh : ZcS (envX Tryz.prog [(134, ZgR), (190, Zuc)] [] 63 8) (.block 0 (.loop (Zbc Tryz.f120.body 0))) Zoo :=
 Zaa (Zag (l := [(134, ZgR), (190, Zuc)]) ⟨Zhm, ZpV, trivial⟩ [] 63 8) (ZO (by kernel_rfl)) (fun a => by kernel_rfl)
def Zhl (l : List Int) : RT (Option (List INPT)) :=
 .br (okB (runF false Zcv (fun a => 1000000000000) (l, 0, [], ()))) (.leaf (some (getO (false, l, 0, [], ()) (runF false Zcv (fun a => 1000000000000) (l, 0, [], ()))).2.2.2.1)) (.leaf none)
def Za1 (l : List Int) : List INPT := getO Zku.dflt (Zhl l).val
def Zj0 (l : List Int) : Bool := okB (Zhl l).val
def ZjZ : Entry := Zf Zug Zku (fun a => some (Zj0 a)) (fun a => Za1 a)
theorem Zom : Zc Tryz.prog 120 ZjZ :=
 pureP 63 [(134, ZgR), (190, Zuc)] [(0, Zoo)] Zug Zku ⟨Zhm, ZpV, trivial⟩ Tryz.func120 Tryz.call120 ⟨Zuh, trivial⟩ (t := fun a => Zhl a) (fun a => by kernel_rfl)
abbrev Zue : List Sh := [Sh.one (R.sl Zdi)]
abbrev Zkt : Rs := Rs.one (Sh.one (R.sl (R.int u8)))
def ZEI : LS := { n := 64, slots := [(3, .tip 0), (7, .code (Sh.one (R.sl Zdi))), (8, .code (Sh.one (R.int i64))), (9, .code (Sh.one (R.int i64)))], boxes := [], stgs := [⟨(R.int u8), 5, true⟩] }
def Zdq (a : List INPT × Int × Int × List Int × PUnit) : RT (Option (Go1 (List INPT × Int × Int × List Int × PUnit))) :=
 let x1 : INPT := R.get Zdi a.1 a.2.2.1
 let x2 := !x1.1
 let x3 := Zkx x2 0
 let x4 := !x3
 let x5 := x1.2
 let x6 := x5.1
 let x7 := Zkx x6 1
 let x8 := !x7
 let x9 := x5.2
 let x10 := x9.1
 let x11 := Zkx x10 2
 let x12 := !x11
 let x13 := x9.2
 let x14 := x13.1
 let x15 := Zkx x14 3
 let x16 := !x15
 let p2 := x16 :: x12 :: x8 :: x4 :: []
 let x17 := x13.2
 let x18 := x17.1
 let x19 := Zkx x18 4
 let x20 := !x19
 let p4 := x20 :: p2
 let x21 := x17.2
 let x22 := x21.1
 let x23 := Zkx x22 5
 let x24 := !x23
 let p6 := x24 :: p4
 let x25 := x21.2
 let x26 := x25.1
 let x27 := Zkx x26 6
 let p8 := (!x27) :: p6
 let x28 := x25.2
 let x29 := x28.1
 let x30 := orR p8 (Zkx x29 7)
 let x31 := !x30
 let x32 := orR p6 x27
 let x33 := !x32
 let p1 := x33 :: x31 :: (decide (a.2.2.1 ≥ 65536)) :: (!Zg a.2.2.1 (List.length a.1)) :: []
 let x34 := orR p4 x23
 let x35 := !x34
 let p3 := x35 :: p1
 let x36 := orR p2 x19
 let x37 := !x36
 let p5 := x37 :: p3
 let x38 := x4 || (x8 || (x12 || x15))
 let x39 := !x38
 let p7 := x39 :: p5
 let x40 := x4 || (x8 || x11)
 let x41 := !x40
 let p9 := x41 :: p7
 let x42 := x4 || x7
 let x43 := !x42
 let p10 := x43 :: p9
 let p11 := x4 :: p10
 let x44 := orI u8 (orI u8 (orI u8 (orI u8 (orI u8 (orI u8 (orI u8 (wBit x2 0) (wBit x6 1)) (wBit x10 2)) (wBit x14 3)) (wBit x18 4)) (wBit x22 5)) (wBit x26 6)) (wBit x29 7)
 let x45 := x28.2
 let x46 := x45.1
 let x47 := x45.2
 let x48 : List Int := a.2.2.2.1 ++ [x44, x46, x47, ZBJ x44 x46 x47]
 .br (decide (a.2.2.1 < a.2.1)) (.br (orR p11 (Nat.ble (List.length x48) most)) (.br (orR p10 x3) (.br (orR p9 x42) (.br (orR p7 x40) (.br (orR p5 x38) (.br (orR p3 x36) (.br (orR p1 x34) (.br (!Zg a.2.2.1 (List.length a.1) || (decide (a.2.2.1 ≥ 65536) || (x31 || x32))) (.br (!Zg a.2.2.1 (List.length a.1) || (decide (a.2.2.1 ≥ 65536) || x30)) (.br (Zg a.2.2.1 (List.length a.1)) (.br (decide (a.2.2.1 ≥ 65536)) (.leaf (some (Go1.brk (a.1, a.2.1, a.2.2.1, a.2.2.2.1, PUnit.unit)))) (.leaf (some (Go1.cont (a.1, a.2.1, i64.wrap (a.2.2.1 + 1), x48, PUnit.unit))))) (.leaf none)) (.leaf none)) (.leaf none)) (.leaf none)) (.leaf none)) (.leaf none)) (.leaf none)) (.leaf none)) (.leaf none)) (.leaf none)) (.leaf (some (Go1.brk (a.1, a.2.1, a.2.2.1, a.2.2.2.1, PUnit.unit))))
def Zol : Ora := ZdV false ZEI Zdq (fun a => 1000000000000)
theorem Zuf : ZcS (envX Tryz.prog [(133, ZOr), (134, ZgR)] [] 127 8) (.block 0 (.loop (Zbc Tryz.f70.body 0))) Zol :=
 Zaa (Zag (l := [(133, ZOr), (134, ZgR)]) ⟨ZIj, Zhm, trivial⟩ [] 127 8) (ZO (by kernel_rfl)) (fun a => by kernel_rfl)
def Zhj (l : List INPT) : RT (Option (List Int)) :=
 let x1 := runF false Zdq (fun a => 1000000000000) (l, iN (List.length l), 0, [], ())
 .br (okB x1) (.leaf (some (getO (false, l, iN (List.length l), 0, [], ()) x1).2.2.2.2.1)) (.leaf none)
def ZeN (l : List INPT) : List Int := getO Zkt.dflt (Zhj l).val
def Zhk (l : List INPT) : Bool := okB (Zhj l).val
def ZBE : Entry := Zf Zue Zkt (fun a => some (Zhk a)) (fun a => ZeN a)
theorem ZEG : Zc Tryz.prog 70 ZBE :=
 pureP 127 [(133, ZOr), (134, ZgR)] [(0, Zol)] Zue Zkt ⟨ZIj, Zhm, trivial⟩ Tryz.func70 Tryz.call70 ⟨Zuf, trivial⟩ (t := fun a => Zhj a) (fun a => by kernel_rfl)
abbrev ZBu : List Sh := [Sh.agg (R.pair (R.int i64) (R.pair rcRG (R.pair (R.int i64) (R.pair (R.int u8) (R.pair (R.int u8) (R.pair R.bool rcCE))))))]
abbrev ZpQ : Rs := Rs.one (Sh.one (R.int i64))
def ZpP (l : BRDT) : RT (Option (Int)) :=
 .br (l.1 != 1 && l.1 != 2) (.leaf (some (1))) (.br (smG l.2.1) (.br (ZeO l.2.1 != 0) (.leaf (some (ZeO l.2.1))) (.br (decide (l.2.2.1 < 0) || (decide (l.2.2.1 > 100) || smC l.2.2.2.2.2.2)) (.br (decide (l.2.2.1 < 0) || (decide (l.2.2.1 > 100) || !vldB l.2.2.2.2.2.2)) (.leaf (some (1))) (.leaf (some (0)))) (.leaf none))) (.leaf none))
def ZgF (l : BRDT) : Int := getO ZpQ.dflt (ZpP l).val
def ZpR (l : BRDT) : Bool := okB (ZpP l).val
def ZHT : Entry := Zf ZBu ZpQ (fun a => some (ZpR a)) (fun a => ZgF a)
theorem ZHR : Zc Tryz.prog 188 ZHT :=
 pureP 15 [(44, Zhy), (247, ZuQ)] [] ZBu ZpQ ⟨ZiA, ZxL, trivial⟩ Tryz.func188 Tryz.call188 trivial (t := fun a => ZpP a) (fun a => by kernel_rfl)
abbrev ZQK : List Sh := [Sh.agg (R.pair (R.int i64) (R.pair rcRG (R.pair (R.int i64) (R.pair (R.int u8) (R.pair (R.int u8) (R.pair R.bool rcCE))))))]
abbrev ZH4 : Rs := Rs.tup [Sh.agg (R.pair (R.pair Zx (R.pair (R.int i64) (R.pair (R.sl (R.int u8)) (R.pair (RY) (R.pair (R.int i64) R.bool))))) (R.pair rcCE (R.pair Za5 (R.pair (R.pair (R.int u16) (R.pair (R.int u8) (R.int i64))) (R.pair (R.int i64) (R.sl (R.pair (R.int u8) (R.int u8)))))))), Sh.one (R.int i64)]
def ZH3 (l : BRDT) : RT (Option (SYST × Int)) :=
 let x1 : TR := (0, 0, 0, 0, 0, 0, 0, (false, false, false, false, false, false, false), 0, 0)
 .br (ZpR l) (.br (ZgF l != 0) (.leaf (some (((((0, x1, false, false, false, 0, false, false, false, false, false, false, false), 0, [], (0, 0, 0, 0), 0, false), [], (0, false, false, false, false, 0, 0, false, false, false, false, false, 0, 0, 0, 0, 0, 0, 0, false), (0, 0, 0), 0, []), ZgF l)))) (.br (smC l.2.2.2.2.2.2) (.leaf (some ((((((newX l.1).1.1, x1, false, false, false, (newX l.1).1.2.2.2.2.2.1, false, false, false, false, false, false, false), 0, [], (1, 0, 0, 4), 1, false), Cells.normX l.2.2.2.2.2.2, (0, false, false, false, false, 0, 0, false, false, false, false, false, 0, 0, 0, 0, 7, 0, 0, false), (0, 0, 0), 0, []), 0)))) (.leaf none))) (.leaf none)
def wNew (l : BRDT) : SYST × Int := getO ZH4.dflt (ZH3 l).val
def ZOk (l : BRDT) : Bool := okB (ZH3 l).val
def ZOj : Entry := Zf ZQK ZH4 (fun a => some (ZOk a)) (fun a => wNew a)
theorem ZH1 : Zc Tryz.prog 119 ZOj :=
 pureP 31 [(80, ZRm), (92, Zla), (188, ZHT), (189, ZSB)] [] ZQK ZH4 ⟨ZPh, Zk9, ZHR, ZIH, trivial⟩ Tryz.func119 Tryz.call119 trivial (t := fun a => ZH3 a) (fun a => by kernel_rfl)
def ZaT : Entry := .tree (ZP (envX Tryz.prog [] [] 7 8) Tryz.f99)
theorem Zbq : Zc Tryz.prog 99 ZaT := Zab (P := Tryz.prog) (n := 7) (k := 8) (l := []) (ol := []) trivial Tryz.func99 rfl (by kernel_rfl) Tryz.call99 trivial
abbrev ZH5 : List Sh := [Sh.agg (R.pair (R.int i64) (R.pair rcRG (R.pair (R.int i64) (R.pair (R.int u8) (R.pair (R.int u8) (R.pair R.bool rcCE)))))), Sh.agg (RY)]
abbrev Zxe : Rs := Rs.one (Sh.one (R.int i64))
def ZBx (l : BRDT) (x : QT11) : RT (Option (Int)) :=
 .br (!(decide (x.1 ≥ 1) && decide (x.1 ≤ 5)) || smG l.2.1) (.br (decide (x.1 ≥ 1) && decide (x.1 ≤ 5)) (.leaf (some (Zt6 l.2.1 x.2.1))) (.br (x.1 == 6 || x.1 == 7) (.leaf (some (ZKa l.2.2.1))) (.leaf (some (0))))) (.leaf none)
def ZOn (l : BRDT) (x : QT11) : Int := getO Zxe.dflt (ZBx l x).val
def ZBy (l : BRDT) (x : QT11) : Bool := okB (ZBx l x).val
def ZQL : Entry := Zf ZH5 Zxe (fun a => some (ZBy a.1 a.2)) (fun a => ZOn a.1 a.2)
theorem ZOl : Zc Tryz.prog 249 ZQL :=
 pureP 16447 [(99, ZaT), (300, ZCj), (301, ZyM)] [] ZH5 Zxe ⟨Zbq, ZEZ, Zvi, trivial⟩ Tryz.func249 Tryz.call249 trivial (t := fun a => ZBx a.1 a.2) (fun a => by kernel_rfl)
abbrev Zt7 : List Sh := [Sh.agg (R.pair (R.pair Zx (R.pair (R.int i64) (R.pair (R.sl (R.int u8)) (R.pair (RY) (R.pair (R.int i64) R.bool))))) (R.pair rcCE (R.pair Za5 (R.pair (R.pair (R.int u16) (R.pair (R.int u8) (R.int i64))) (R.pair (R.int i64) (R.sl (R.pair (R.int u8) (R.int u8))))))))]
abbrev Zt8 : Rs := Rs.one (Sh.one (R.int i64))
def ZBt (s : SYST) : RT (Int) :=
 .br (Zay s.1 != 7) (.leaf (0)) (.leaf (i64.wrap (s.2.2.2.2.1 + 1)))
def ZgO (s : SYST) : Int := (ZBt s).val
def ZpO : Entry := Zf Zt7 Zt8 (fun _ => none) (fun a => ZgO a)
theorem Zok : Zc Tryz.prog 193 ZpO :=
 pureQ 7 [(79, Zee)] [] Zt7 Zt8 ⟨ZdC, trivial⟩ Tryz.func193 Tryz.call193 trivial (t := fun a => ZBt a) (fun a => by kernel_rfl)
abbrev Zt9 : List Sh := [Sh.agg (R.pair (R.int i64) (R.pair rcRG (R.pair (R.int i64) (R.pair (R.int u8) (R.pair (R.int u8) (R.pair R.bool rcCE)))))), Sh.agg (R.pair (R.pair Zx (R.pair (R.int i64) (R.pair (R.sl (R.int u8)) (R.pair (RY) (R.pair (R.int i64) R.bool))))) (R.pair rcCE (R.pair Za5 (R.pair (R.pair (R.int u16) (R.pair (R.int u8) (R.int i64))) (R.pair (R.int i64) (R.sl (R.pair (R.int u8) (R.int u8)))))))), Sh.agg Zdi]
abbrev Zkr : Rs := Rs.one (Sh.agg ZgC)
def Zhh (l : BRDT) (s : SYST) (i : INPT) : RT (Option LINT) :=
 let x1 := bif i.2.1 then i.2.2.2.1 else i.2.2.2.1
 let x2 := bif i.2.1 then i.2.2.2.2.1 else i.2.2.2.2.1
 let x3 := bif i.2.1 then i.2.2.2.2.2.1 else i.2.2.2.2.2.1
 let x4 := bif i.2.1 then i.2.2.2.2.2.2.1 else i.2.2.2.2.2.2.1
 let x5 := bif i.2.1 then i.2.2.2.2.2.2.2.1 else i.2.2.2.2.2.2.2.1
 let x6 := bif l.2.2.2.2.2.1 then andI u8 i.2.2.2.2.2.2.2.2.1 1 == 1 else vInt s.2.2.1
 let x7 := bif i.2.1 then x6 else x6
 .br (ZOA s.2.2.1) (.br (!i.1 || ZBy l s.1.2.2.2.1) (.leaf (some ((i.1 && bif i.2.1 then decide (ZgO s ≥ ZOn l s.1.2.2.2.1) else decide (ZgO s ≥ ZOn l s.1.2.2.2.1), bif i.1 then i.2.1 || ZbZ s.2.2.2.1 else i.2.1 || ZbZ s.2.2.2.1, bif i.1 then bif i.2.1 then i.2.2.1 else i.2.2.1 else bif i.2.1 then i.2.2.1 else i.2.2.1, bif i.1 then x1 else x1, bif i.1 then x2 else x2, bif i.1 then x3 else x3, bif i.1 then x4 else x4, bif i.1 then x5 else x5, bif i.1 then x7 else x7)))) (.leaf none)) (.leaf none)
def ZpU (l : BRDT) (s : SYST) (i : INPT) : LINT := getO Zkr.dflt (Zhh l s i).val
def ZjY (l : BRDT) (s : SYST) (i : INPT) : Bool := okB (Zhh l s i).val
def ZBz : Entry := Zf Zt9 Zkr (fun a => some (ZjY a.1 a.2.1 a.2.2)) (fun a => ZpU a.1 a.2.1 a.2.2)
theorem ZEE : Zc Tryz.prog 192 ZBz :=
 pureP 255 [(193, ZpO), (248, ZUT), (249, ZQL), (250, ZkC)] [] Zt9 Zkr ⟨Zok, ZSC, ZOl, ZkB, trivial⟩ Tryz.func192 Tryz.call192 trivial (t := fun a => Zhh a.1 a.2.1 a.2.2) (fun a => by kernel_rfl)
abbrev ZBA : List Sh := [Sh.agg (R.pair (R.int i64) (R.pair rcRG (R.pair (R.int i64) (R.pair (R.int u8) (R.pair (R.int u8) (R.pair R.bool rcCE)))))), Sh.one (R.int u8)]
abbrev ZBB : Rs := Rs.tup [Sh.one R.bool, Sh.one R.bool]
def ZH9 (l : BRDT) (p : Int) : RT (Bool × Bool) :=
 .leaf ((bif !l.2.2.2.2.2.1 then bif p == l.2.2.2.1 then p == u8.wrap (l.2.2.2.1 + 1) else p == u8.wrap (l.2.2.2.1 + 1) else p == u8.wrap (l.2.2.2.1 + 1), !l.2.2.2.2.2.1 && (p == l.2.2.2.1 || p == u8.wrap (l.2.2.2.1 + 1))))
def Zc6 (l : BRDT) (p : Int) : Bool × Bool := (ZH9 l p).val
def Zxf : Entry := Zf ZBA ZBB (fun _ => none) (fun a => Zc6 a.1 a.2)
theorem Zua : Zc Tryz.prog 251 Zxf :=
 pureQ 63 [] [] ZBA ZBB trivial Tryz.func251 Tryz.call251 trivial (t := fun a => ZH9 a.1 a.2) (fun a => by kernel_rfl)
abbrev ZBC : List Sh := [Sh.agg (R.pair (R.int i64) (R.pair rcRG (R.pair (R.int i64) (R.pair (R.int u8) (R.pair (R.int u8) (R.pair R.bool rcCE)))))), Sh.one (R.int u8)]
abbrev ZBD : Rs := Rs.tup [Sh.one (R.int i64), Sh.one R.bool]
def ZIa (l : BRDT) (p : Int) : RT (Int × Bool) :=
 .leaf ((i64.wrap (u8.wrap (p - l.2.2.2.2.1)), decide (u8.wrap (p - l.2.2.2.2.1) < 4)))
def Zfn (l : BRDT) (p : Int) : Int × Bool := (ZIa l p).val
def Zxg : Entry := Zf ZBC ZBD (fun _ => none) (fun a => Zfn a.1 a.2)
theorem Zub : Zc Tryz.prog 252 Zxg :=
 pureQ 127 [] [] ZBC ZBD trivial Tryz.func252 Tryz.call252 trivial (t := fun a => ZIa a.1 a.2) (fun a => by kernel_rfl)
abbrev ZQO : List Sh := [Sh.agg (R.pair (R.int i64) (R.pair rcRG (R.pair (R.int i64) (R.pair (R.int u8) (R.pair (R.int u8) (R.pair R.bool rcCE)))))), Sh.agg (R.pair (R.pair Zx (R.pair (R.int i64) (R.pair (R.sl (R.int u8)) (R.pair (RY) (R.pair (R.int i64) R.bool))))) (R.pair rcCE (R.pair Za5 (R.pair (R.pair (R.int u16) (R.pair (R.int u8) (R.int i64))) (R.pair (R.int i64) (R.sl (R.pair (R.int u8) (R.int u8)))))))), Sh.agg Zdi]
abbrev ZIi : Rs := Rs.tup [Sh.agg (R.pair (R.pair Zx (R.pair (R.int i64) (R.pair (R.sl (R.int u8)) (R.pair (RY) (R.pair (R.int i64) R.bool))))) (R.pair rcCE (R.pair Za5 (R.pair (R.pair (R.int u16) (R.pair (R.int u8) (R.int i64))) (R.pair (R.int i64) (R.sl (R.pair (R.int u8) (R.int u8)))))))), Sh.one (R.int u8)]
def ZIh (l : BRDT) (s : SYST) (i : INPT) : RT (Option (SYST × Int)) :=
 let x1 := decide (s.1.2.2.2.1.1 ≥ 1) && decide (s.1.2.2.2.1.1 ≤ 5)
 let x2 := !x1 || smG l.2.1 && smC s.2.1
 let x3 := !x2
 let x4 := s.1.2.2.2.1.1 != 6 && l.2.2.2.2.2.1
 let p1 := (!(Zc6 l (u8.wrap s.1.2.2.2.1.2.1)).2) :: (s.1.2.2.2.1.1 != 6) :: x4 :: x1 :: []
 let x5 := x1 || (x4 || (!s.1.2.2.2.1.1 != 6 || ZOD s.2.2.1))
 let x6 := !x5
 let x7 := orR p1 (ZBV s.2.2.1 (Zc6 l (u8.wrap s.1.2.2.2.1.2.1)).1)
 let p2 := (!(Zfn l (u8.wrap s.1.2.2.2.1.2.1)).2) :: ((Zc6 l (u8.wrap s.1.2.2.2.1.2.1)).2) :: (s.1.2.2.2.1.1 != 6) :: x4 :: x1 :: (!x7) :: x6 :: x3 :: []
 let x8 := ZOu s.2.2.1 (Zc6 l (u8.wrap s.1.2.2.2.1.2.1)).1
 let x9 := x8.1
 .br (i.2.2.1 || (Zay s.1 != 3 || !Zb4 s.1.2.2.2.1.1)) (.leaf (some ((s, 0)))) (.br (orR p2 (Zp7 s.2.2.2.1 (Zfn l (u8.wrap s.1.2.2.2.1.2.1)).1)) (.br (x3 || (x6 || x7)) (.br (x3 || x5) (.br (x2) (.leaf (some (((s.1, s.2.1, (R.sel Za5 x1 s.2.2.1 (R.sel Za5 x4 s.2.2.1 (R.sel Za5 (s.1.2.2.2.1.1 != 6) (vAck s.2.2.1).1 (R.sel Za5 ((Zc6 l (u8.wrap s.1.2.2.2.1.2.1)).2) x9 s.2.2.1)))), s.2.2.2), bif x1 then ZoJ l.2.1 s.2.1 s.1.2.2.2.1.2.1 else bif x4 then i.2.2.2.2.2.2.2.2.2 else bif s.1.2.2.2.1.1 != 6 then (vAck s.2.2.1).2 else bif (Zc6 l (u8.wrap s.1.2.2.2.1.2.1)).2 then x8.2 else bif (Zfn l (u8.wrap s.1.2.2.2.1.2.1)).2 then ZIw s.2.2.2.1 (Zfn l (u8.wrap s.1.2.2.2.1.2.1)).1 else i.2.2.2.2.2.2.2.2.2)))) (.leaf none)) (.leaf none)) (.leaf none)) (.leaf none))
def wBus (l : BRDT) (s : SYST) (i : INPT) : SYST × Int := getO ZIi.dflt (ZIh l s i).val
def ZOp (l : BRDT) (s : SYST) (i : INPT) : Bool := okB (ZIh l s i).val
def ZUO : Entry := Zf ZQO ZIi (fun a => some (ZOp a.1 a.2.1 a.2.2)) (fun a => wBus a.1 a.2.1 a.2.2)
theorem ZSt : Zc Tryz.prog 194 ZUO :=
 pureP 4956598223910189960238497791 [(79, Zee), (99, ZaT), (102, ZCz), (103, Zk5), (251, Zxf), (252, Zxg), (253, ZUU), (254, ZQS), (255, ZIv)] [] ZQO ZIi ⟨ZdC, Zbq, ZE7, ZhD, Zua, Zub, ZSF, ZOs, ZIt, trivial⟩ Tryz.func194 Tryz.call194 trivial (t := fun a => ZIh a.1 a.2.1 a.2.2) (fun a => by kernel_rfl)
abbrev ZBv : List Sh := [Sh.agg (R.pair (R.int i64) (R.pair rcRG (R.pair (R.int i64) (R.pair (R.int u8) (R.pair (R.int u8) (R.pair R.bool rcCE)))))), Sh.agg (R.pair (R.pair Zx (R.pair (R.int i64) (R.pair (R.sl (R.int u8)) (R.pair (RY) (R.pair (R.int i64) R.bool))))) (R.pair rcCE (R.pair Za5 (R.pair (R.pair (R.int u16) (R.pair (R.int u8) (R.int i64))) (R.pair (R.int i64) (R.sl (R.pair (R.int u8) (R.int u8)))))))), Sh.agg (RY)]
abbrev ZpS : Rs := Rs.one (Sh.agg (R.pair (R.pair Zx (R.pair (R.int i64) (R.pair (R.sl (R.int u8)) (R.pair (RY) (R.pair (R.int i64) R.bool))))) (R.pair rcCE (R.pair Za5 (R.pair (R.pair (R.int u16) (R.pair (R.int u8) (R.int i64))) (R.pair (R.int i64) (R.sl (R.pair (R.int u8) (R.int u8)))))))))
def Zkq (l : BRDT) (s : SYST) (x : QT11) : RT (Option SYST) :=
 let x1 : List (Int × Int) := [] ++ s.2.2.2.2.2 ++ [(u8.wrap x.2.1, x.2.2.1)]
 let x2 := ZIo s.2.2.1 (Zc6 l (u8.wrap x.2.1)).1 x.2.2.1
 let x30 := Zxi s.2.2.2.1 (Zfn l (u8.wrap x.2.1)).1 x.2.2.1
 .br (!x.1 != 7 || smG l.2.1 && smC s.2.1) (.br (x.1 != 7) (.leaf (some ((s.1, Zeb l.2.1 s.2.1 x.2.1 x.2.2.1, s.2.2)))) (.br (!Nat.ble (List.length ([] ++ s.2.2.2.2.2)) most || Nat.ble (List.length x1) most) (.br (Nat.ble (List.length ([] ++ s.2.2.2.2.2)) most) (.br (!(Zc6 l (u8.wrap x.2.1)).2 || Zp4 s.2.2.1 (Zc6 l (u8.wrap x.2.1)).1 x.2.2.1) (.leaf (some ((s.1, s.2.1, (R.sel Za5 ((Zc6 l (u8.wrap x.2.1)).2) x2 s.2.2.1), (R.sel ZUZ ((Zc6 l (u8.wrap x.2.1)).2) s.2.2.2.1 (R.sel ZUZ ((Zfn l (u8.wrap x.2.1)).2) x30 s.2.2.2.1)), s.2.2.2.2.1, x1)))) (.leaf none)) (.leaf none)) (.leaf none))) (.leaf none)
def ZBw (l : BRDT) (s : SYST) (x : QT11) : SYST := getO ZpS.dflt (Zkq l s x).val
def ZpT (l : BRDT) (s : SYST) (x : QT11) : Bool := okB (Zkq l s x).val
def ZHW : Entry := Zf ZBv ZpS (fun a => some (ZpT a.1 a.2.1 a.2.2)) (fun a => ZBw a.1 a.2.1 a.2.2)
theorem ZHU : Zc Tryz.prog 195 ZHW :=
 pureP 4095 [(101, ZkW), (251, Zxf), (252, Zxg), (256, ZIn), (257, ZBP)] [] ZBv ZpS ⟨ZkV, Zua, Zub, ZIl, ZEL, trivial⟩ Tryz.func195 Tryz.call195 trivial (t := fun a => Zkq a.1 a.2.1 a.2.2) (fun a => by kernel_rfl)
abbrev ZBF : List Sh := [Sh.agg (R.pair (R.int i64) (R.pair rcRG (R.pair (R.int i64) (R.pair (R.int u8) (R.pair (R.int u8) (R.pair R.bool rcCE)))))), Sh.agg (R.pair (R.pair Zx (R.pair (R.int i64) (R.pair (R.sl (R.int u8)) (R.pair (RY) (R.pair (R.int i64) R.bool))))) (R.pair rcCE (R.pair Za5 (R.pair (R.pair (R.int u16) (R.pair (R.int u8) (R.int i64))) (R.pair (R.int i64) (R.sl (R.pair (R.int u8) (R.int u8)))))))), Sh.agg Zdi]
abbrev ZpW : Rs := Rs.tup [Sh.agg (R.pair (R.pair Zx (R.pair (R.int i64) (R.pair (R.sl (R.int u8)) (R.pair (RY) (R.pair (R.int i64) R.bool))))) (R.pair rcCE (R.pair Za5 (R.pair (R.pair (R.int u16) (R.pair (R.int u8) (R.int i64))) (R.pair (R.int i64) (R.sl (R.pair (R.int u8) (R.int u8)))))))), Sh.agg ZOT, Sh.agg (R.pair ZgC (R.pair (R.int u8) (R.pair (R.pair (R.int u16) (R.int u8)) R.bool)))]
def Zkv (l : BRDT) (s : SYST) (i : INPT) : RT (Option (QT27)) :=
 let x1 := ZBY s.2.2.1 i.2.2.2.2.2.2.2.2.1
 let x29 : SYST := (s.1, s.2.1, (R.sel Za5 (!l.2.2.2.2.2.1) x1 s.2.2.1), s.2.2.2)
 let x30 := wBus l x29 i
 let x31 := x30.1
 let x32 := x31.1
 let x33 := !i.2.2.1 && (Zay s.1 == 3 && Zcy s.1.2.2.2.1.1)
 let x34 := ZpU l x29 i
 let x35 := x30.2
 let x36 := clkX x32 x34 x35
 let x37 := x36.1
 let x38 := x31.2
 let x39 := x38.1
 let x40 := x38.2
 let x41 := x40.1
 let x42 := x40.2
 let x43 := x42.1
 let x44 := ZgO x29
 let x45 := x42.2.2
 let x46 : SYST := (x37, x39, x41, x43, x44, x45)
 let x47 := x36.2
 let x48 := x47.2.2.2.2.2.2.2.2.2.2.2.2.2.2.2.1
 let x49 := ZBw l x46 s.1.2.2.2.1
 let x50 := x49.2
 let x51 := x50.2
 let x52 := x51.2
 let x53 := x52.1
 let x54 : Int := bif x33 then x53.1 else x43.1
 let x55 := x53.2
 let x56 := x43.2
 let x57 : Int := bif x33 then x55.1 else x56.1
 let x58 : Int := bif x33 then x55.2 else x56.2
 let x59 := Zhn (x54, x57, x58)
 let x60 := x59.2
 let x61 := x60.2
 let x62 : List (Int × Int) := bif x33 then x50.1 else x39
 let x63 := x49.1
 let x64 := x63.1
 let x65 := x37.1
 let x118 := x63.2
 let x119 := x37.2
 let x120 := x118.2
 let x121 := x119.2
 let x122 := x120.2
 let x123 := x122.1
 let x124 := x121.2
 let x125 := x124.1
 let x130 := x122.2
 let x131 := x124.2
 let x132 := x60.1
 let x133 := x132.1
 let x134 := x132.2
 let x135 := x51.1
 let x136 := x135.2
 let x137 := x41.2
 let x138 := x136.2
 let x139 := x137.2
 let x140 := x138.2
 let x141 := x139.2
 let x142 := x140.2
 let x143 := x141.2
 let x144 := x142.2
 let x145 := x143.2
 let x146 := x144.2
 let x147 := x145.2
 let x148 := x146.2
 let x149 := x147.2
 let x150 := x148.2
 let x151 := x149.2
 let x152 := x150.2
 let x153 := x151.2
 let x154 := x152.2
 let x155 := x153.2
 let x156 := x154.2
 let x157 := x155.2
 let x158 := x156.2
 let x159 := x157.2
 let x160 := x158.2
 let x161 := x159.2
 let x162 := x160.2
 let x163 := x161.2
 let x164 := x162.2
 let x165 := x163.2
 let x166 := x164.2
 let x167 := x165.2
 let x168 := x166.2
 let x169 := x167.2
 let x170 := x168.2
 let x171 := x169.2
 let x172 := x59.1
 let x173 := x172.2
 let x174 := x52.2
 .br (ZjY l x29 i) (.br (ZOp l x29 i) (.br (ZcV x32) (.br (!x33 || ZpT l x46 s.1.2.2.2.1) (.br (!x48 || (!x61 || smG l.2.1 && smC x62)) (.leaf (some (((((R.sel Zx x33 x64 x65), bif x33 then x118.1 else x119.1, bif x33 then x120.1 else x121.1, (R.sel RY x33 x123 x125), bif x33 then x130.1 else x131.1, bif x33 then x130.2 else x131.2), bif x48 then bif x61 then Zeb l.2.1 x62 x133 x134 else x62 else x62, (bif x33 then x135.1 else x41.1, bif x33 then x136.1 else x137.1, bif x33 then x138.1 else x139.1, bif x33 then x140.1 else x141.1, bif x33 then x142.1 else x143.1, bif x33 then x144.1 else x145.1, bif x33 then x146.1 else x147.1, bif x33 then x148.1 else x149.1, bif x33 then x150.1 else x151.1, bif x33 then x152.1 else x153.1, bif x33 then x154.1 else x155.1, bif x33 then x156.1 else x157.1, bif x33 then x158.1 else x159.1, bif x33 then x160.1 else x161.1, bif x33 then x162.1 else x163.1, bif x33 then x164.1 else x165.1, bif x33 then x166.1 else x167.1, bif i.2.2.1 then 0 else bif x33 then x168.1 else x169.1, bif x33 then x170.1 else x171.1, bif x33 then x170.2 else x171.2), (bif x48 then bif x61 then x172.1 else x54 else x54, bif x48 then bif x61 then x173.1 else x57 else x57, bif i.2.2.1 then 0 else bif x48 then bif x61 then x173.2 else x58 else x58), bif x33 then x174.1 else x44, bif x33 then x174.2 else x45), x47, x34, x35, (bif x48 then bif x61 then x133 else 0 else 0, bif x48 then bif x61 then x134 else 0 else 0), x48 && x61)))) (.leaf none)) (.leaf none)) (.leaf none)) (.leaf none)) (.leaf none)
def ZBG (l : BRDT) (s : SYST) (i : INPT) : QT27 := getO ZpW.dflt (Zkv l s i).val
def ZpY (l : BRDT) (s : SYST) (i : INPT) : Bool := okB (Zkv l s i).val
def ZpX : Entry := Zf ZBF ZpW (fun a => some (ZpY a.1 a.2.1 a.2.2)) (fun a => ZBG a.1 a.2.1 a.2.2)
theorem Zuj : Zc Tryz.prog 121 ZpX :=
 pureP 131071 [(27, ZeT), (79, Zee), (100, Zqm), (101, ZkW), (191, ZIB), (192, ZBz), (193, ZpO), (194, ZUO), (195, ZHW), (196, Zor)] [] ZBF ZpW ⟨Zgk, ZdC, ZoL, ZkV, ZIz, ZEE, Zok, ZSt, ZHU, Zup, trivial⟩ Tryz.func121 Tryz.call121 trivial (t := fun a => Zkv a.1 a.2.1 a.2.2) (fun a => by kernel_rfl)
abbrev Zop : List Sh := [Sh.agg (R.pair Zx (R.pair (R.int i64) (R.pair (R.sl (R.int u8)) (R.pair (RY) (R.pair (R.int i64) R.bool))))), Sh.one (R.int i64), Sh.one (R.int u8)]
abbrev Zoq : Rs := Rs.one (Sh.agg (RY))
def Zui (c : CORT) (s : Int) (d : Int) : RT TY :=
 let x1 : Int := bif Zb4 c.2.2.2.1.1 then d else c.2.2.2.1.2.2.1
 .leaf ((c.2.2.2.1.1, c.2.2.2.1.2.1, bif s == 3 then x1 else c.2.2.2.1.2.2.1, bif s == 3 then bif c.2.2.2.1.1 == 1 || c.2.2.2.1.1 == 8 then ZfD c.1.1 x1 else c.2.2.2.1.2.2.2 else c.2.2.2.1.2.2.2))
def Zf8 (c : CORT) (s : Int) (d : Int) : QT11 := (Zui c s d).val
def Zfo : Entry := Zf Zop Zoq (fun _ => none) (fun a => Zf8 a.1 a.2.1 a.2.2)
theorem ZgQ : Zc Tryz.prog 123 Zfo :=
 pureQ 255 [(103, Zk5), (116, ZyT)] [] Zop Zoq ⟨ZhD, Zvl, trivial⟩ Tryz.func123 Tryz.call123 trivial (t := fun a => Zui a.1 a.2.1 a.2.2) (fun a => by kernel_rfl)
abbrev ZH6 : List Sh := [Sh.one (R.int i64)]
abbrev ZH7 : Rs := Rs.one (Sh.one (R.int i64))
def ZQM (s : Int) : RT (Int) :=
 .br (Zb s) (.leaf (3)) (.br (s == 5) (.leaf (2)) (.leaf (1)))
def ZSr (s : Int) : Int := (ZQM s).val
def ZH8 : Entry := Zf ZH6 ZH7 (fun _ => none) (fun a => ZSr a)
theorem ZOo : Zc Tryz.prog 200 ZH8 :=
 pureQ 79 [(104, Zgh)] [] ZH6 ZH7 ⟨ZfC, trivial⟩ Tryz.func200 Tryz.call200 trivial (t := fun a => ZQM a) (fun a => by kernel_rfl)
abbrev ZHO : List Sh := [Sh.agg ZOU, Sh.agg Zx, Sh.agg ZgC]
abbrev ZHP : Rs := Rs.one (Sh.agg ZOU)
def ZQI (e : EVTT) (c : TC) (l : LINT) : RT EVTT :=
 .leaf ((e.1, e.2.1, e.2.2.1, l, c.2.2.2.2.2.2.2.1, c.2.2.2.2.2.2.1, c.2.2.2.2.2.2.2.2.2.1, c.2.2.2.2.2.2.2.2.1, e.2.2.2.2.2.2.2.2))
def Zxd (e : EVTT) (c : TC) (l : LINT) : EVTT := (ZQI e c l).val
def ZHQ : Entry := Zf ZHO ZHP (fun _ => none) (fun a => Zxd a.1 a.2.1 a.2.2)
theorem ZOh : Zc Tryz.prog 198 ZHQ :=
 pureQ 127 [] [] ZHO ZHP trivial Tryz.func198 Tryz.call198 trivial (t := fun a => ZQI a.1 a.2.1 a.2.2) (fun a => by kernel_rfl)
abbrev ZBK : List Sh := [Sh.agg (R.pair Zx (R.pair (R.int i64) (R.pair (R.sl (R.int u8)) (R.pair (RY) (R.pair (R.int i64) R.bool))))), Sh.one (R.int i64), Sh.one (R.int u8)]
abbrev ZpZ : Rs := Rs.one (Sh.one (R.sl (R.int u8)))
def Zkw (c : CORT) (s : Int) (d : Int) : RT (Option (List Int)) :=
 let x1 : List Int := [] ++ c.2.2.1 ++ [(Zf8 c s d).2.2.1]
 .br (Nat.ble (List.length ([] ++ c.2.2.1)) most) (.br (!s == 3 || Nat.ble (List.length x1) most) (.leaf (some (bif s == 3 then x1 else [] ++ c.2.2.1))) (.leaf none)) (.leaf none)
def ZBL (c : CORT) (s : Int) (d : Int) : List Int := getO ZpZ.dflt (Zkw c s d).val
def Zp0 (c : CORT) (s : Int) (d : Int) : Bool := okB (Zkw c s d).val
def Zxh : Entry := Zf ZBK ZpZ (fun a => some (Zp0 a.1 a.2.1 a.2.2)) (fun a => ZBL a.1 a.2.1 a.2.2)
theorem ZIf : Zc Tryz.prog 201 Zxh :=
 pureP 255 [(123, Zfo)] [] ZBK ZpZ ⟨ZgQ, trivial⟩ Tryz.func201 Tryz.call201 trivial (t := fun a => Zkw a.1 a.2.1 a.2.2) (fun a => by kernel_rfl)
abbrev Zks : List Sh := [Sh.agg (R.pair Zx (R.pair (R.int i64) (R.pair (R.sl (R.int u8)) (R.pair (RY) (R.pair (R.int i64) R.bool))))), Sh.agg ZgC, Sh.one (R.int u8)]
abbrev ZgP : Rs := Rs.tup [Sh.agg Zx, Sh.one R.bool]
def Zen (c : CORT) (l : LINT) (d : Int) : RT (Option (TC × Bool)) :=
 let x1 : TC × Bool := ((0, (0, 0, 0, 0, 0, 0, 0, (false, false, false, false, false, false, false), 0, 0), false, false, false, 0, false, false, false, false, false, false, false), false)
 .br l.2.2.1 (.leaf (some (x1))) (.br (Zew c c.2.2.2.2.1 d) (.br (!ZrB c.2.2.2.2.1 (ZgZ c c.2.2.2.2.1 d).1) (.leaf (some (x1))) (.br (Zl (Zn c.1 l) c.2.1 (ZgZ c c.2.2.2.2.1 d).2).2 (.leaf (some (x1))) (.leaf (some ((finX (Zn c.1 l) c.2.1 (ZgZ c c.2.2.2.2.1 d).2 l, true)))))) (.leaf none))
def Zhi (c : CORT) (l : LINT) (d : Int) : TC × Bool := getO ZgP.dflt (Zen c l d).val
def Zf7 (c : CORT) (l : LINT) (d : Int) : Bool := okB (Zen c l d).val
def Ziq : Entry := Zf Zks ZgP (fun a => some (Zf7 a.1 a.2.1 a.2.2)) (fun a => Zhi a.1 a.2.1 a.2.2)
theorem Zud : Zc Tryz.prog 199 Ziq :=
 pureP 16383 [(42, ZCP), (84, ZlQ), (89, ZJD), (90, ZKv), (98, ZS7)] [] Zks ZgP ⟨ZqL, ZlP, ZCy, ZC4, ZKj, trivial⟩ Tryz.func199 Tryz.call199 trivial (t := fun a => Zen a.1 a.2.1 a.2.2) (fun a => by kernel_rfl)
end
end Go.Proofs.YtghoimllhpjkjaaGreat
open Go.IntKind (u8 u16 i64)
set_option linter.unusedSimpArgs false
open Go Go.S3 Go.Proofs
set_option linter.unusedVariables false
set_option maxRecDepth 100000
namespace Go.Proofs.YtghoimllhpjkjaaGreat
noncomputable section
def Zbh : Entry := .tree (ZP (envX Tryz.prog [] [] 541622271 8) Tryz.f122)
theorem ZcW : Zc Tryz.prog 122 Zbh := Zab (P := Tryz.prog) (n := 541622271) (k := 8) (l := []) (ol := []) trivial Tryz.func122 rfl (by kernel_rfl) Tryz.call122 trivial
def Zcc : Entry := .tree (ZP (envX Tryz.prog [] [] 63 8) Tryz.f197)
theorem ZgB : Zc Tryz.prog 197 Zcc := Zab (P := Tryz.prog) (n := 63) (k := 8) (l := []) (ol := []) trivial Tryz.func197 rfl (by kernel_rfl) Tryz.call197 trivial
def ZaX : Entry := .tree (ZP (envX Tryz.prog [(30, ZfE), (79, Zee), (84, ZlQ), (197, Zcc), (198, ZHQ), (199, Ziq), (200, ZH8), (201, Zxh)] [] 32767 8) Tryz.f124)
theorem Zcb : Zc Tryz.prog 124 ZaX := Zab (P := Tryz.prog) (n := 32767) (k := 8) (l := [(30, ZfE), (79, Zee), (84, ZlQ), (197, Zcc), (198, ZHQ), (199, Ziq), (200, ZH8), (201, Zxh)]) (ol := []) ⟨Zgl, ZdC, ZlP, ZgB, ZOh, Zud, ZOo, ZIf, trivial⟩ Tryz.func124 rfl (by kernel_rfl) Tryz.call124 trivial
abbrev ZQJ : List Sh := [Sh.agg (R.pair (R.int i64) (R.pair rcRG (R.pair (R.int i64) (R.pair (R.int u8) (R.pair (R.int u8) (R.pair R.bool rcCE)))))), Sh.one (R.sl (R.int u8))]
abbrev ZHY : Rs := Rs.tup [Sh.agg (R.pair (R.sl ZOT) (R.pair (R.sl ZJk) (R.pair (R.sl ZOU) (R.pair (R.sl Zx) (R.pair (R.pair Zx (R.pair (R.int i64) (R.pair (R.sl (R.int u8)) (R.pair (RY) (R.pair (R.int i64) R.bool))))) (R.pair rcCE (R.pair Za5 (R.pair (R.pair (R.int u16) (R.pair (R.int u8) (R.int i64))) (R.pair (R.int i64) (R.sl (R.pair (R.int u8) (R.int u8)))))))))))), Sh.one (R.int i64)]
def ZSq : LS := { n := 119, slots := [(2, .fix (A.loc 0 0)), (4, .fix (A.loc 1 0)), (6, .fix (A.loc 2 0)), (8, .fix (A.loc 3 0)), (9, .fix (A.loc 4 0)), (32, .code (Sh.one (R.sl Zdi))), (33, .code (Sh.one (R.int i64))), (34, .code (Sh.one (R.int i64)))], boxes := [[.many (R.pair (R.int i64) (R.pair rcRG (R.pair (R.int i64) (R.pair (R.int u8) (R.pair (R.int u8) (R.pair R.bool rcCE))))))], [.many (R.pair (R.sl ZOT) (R.pair (R.sl ZJk) (R.pair (R.sl ZOU) (R.pair (R.sl Zx) (R.pair (R.pair Zx (R.pair (R.int i64) (R.pair (R.sl (R.int u8)) (R.pair (RY) (R.pair (R.int i64) R.bool))))) (R.pair rcCE (R.pair Za5 (R.pair (R.pair (R.int u16) (R.pair (R.int u8) (R.int i64))) (R.pair (R.int i64) (R.sl (R.pair (R.int u8) (R.int u8))))))))))))], [.many (R.pair (R.pair Zx (R.pair (R.int i64) (R.pair (R.sl (R.int u8)) (R.pair (RY) (R.pair (R.int i64) R.bool))))) (R.pair rcCE (R.pair Za5 (R.pair (R.pair (R.int u16) (R.pair (R.int u8) (R.int i64))) (R.pair (R.int i64) (R.sl (R.pair (R.int u8) (R.int u8))))))))], [.tip 0, .tip 1, .tip 2, .tip 3, .many (R.pair (R.pair Zx (R.pair (R.int i64) (R.pair (R.sl (R.int u8)) (R.pair (RY) (R.pair (R.int i64) R.bool))))) (R.pair rcCE (R.pair Za5 (R.pair (R.pair (R.int u16) (R.pair (R.int u8) (R.int i64))) (R.pair (R.int i64) (R.sl (R.pair (R.int u8) (R.int u8))))))))], [.many Zx]], stgs := [⟨R.pair (R.int i64) (R.pair (R.int u16) (R.pair (R.int u8) (R.pair R.bool (R.pair R.bool (R.pair R.bool (R.pair R.bool (R.pair R.bool ZgC))))))), 72, false⟩, ⟨R.pair (R.int i64) (R.pair (RY) (R.pair (R.int i64) (R.pair (R.int i64) (R.pair R.bool R.bool)))), 125, false⟩, ⟨R.pair (R.int i64) (R.pair (R.int i64) (R.pair (R.sl (R.int u8)) (R.pair ZgC (R.pair R.bool (R.pair R.bool (R.pair R.bool (R.pair R.bool (R.pair (R.int u16) (R.int u8))))))))), 108, false⟩, ⟨R.pair (R.int i64) (R.pair Zed (R.pair R.bool (R.pair R.bool (R.pair R.bool (R.pair (R.int u8) rcF7))))), 38, false⟩] }
def ZeM (a : List INPT × Int × Int × BRDT × RUNT × SYST × SYST × TC × List PINT × List ITMT × List EVTT × List TC × PUnit) : RT (Option (Go1 (List INPT × Int × Int × BRDT × RUNT × SYST × SYST × TC × List PINT × List ITMT × List EVTT × List TC × PUnit))) :=
 let x1 : INPT := R.get Zdi a.1 a.2.2.1
 let x2 := ZpY a.2.2.2.1 a.2.2.2.2.2.1 x1
 let x3 := !x2
 let x4 := ZBG a.2.2.2.1 a.2.2.2.2.2.1 x1
 let x5 := x4.2
 let x6 : List PINT := a.2.2.2.2.2.2.2.2.1 ++ [x5.1]
 let x7 := Nat.ble (List.length x6) most
 let x8 := !x7
 let x9 : Int := bif x1.2.2.1 then 10 else Zay a.2.2.2.2.2.1.1
 let x10 := x9 == 8
 let x11 := x9 == 9
 let x12 := x9 == 10
 let x13 : Int := bif x10 then 2 else bif x11 then 3 else bif x12 then 4 else 1
 let x14 := x13 != 1
 let x15 := !x14
 let x16 := i64.wrap (iN (List.length a.2.2.2.2.2.2.2.2.2.1) - 1)
 let x17 := decide (x16 ≥ 0)
 let x18 := !x17
 let x19 := Zg x16 (List.length a.2.2.2.2.2.2.2.2.2.1)
 let x20 := x18 || x19
 let x21 := !x20
 let x22 : ITMT := R.get ZJk a.2.2.2.2.2.2.2.2.2.1 x16
 let x23 := x22.1
 let x24 := x23 == x13
 let x25 := !x24
 let x26 := x18 || (x25 || x19)
 let x27 := x22.2
 let x28 := x27.2
 let x29 := x28.2
 let x30 := x29.2
 let x31 := x30.1 == a.2.2.2.2.2.1.1.1.2.2.1
 let p7 := (!x31) :: x25 :: x18 :: (!x26) :: x21 :: x15 :: []
 let x32 := orR p7 x19
 let x33 := !x32
 let x34 := x15 || (x21 || x26)
 let x35 := !x34
 let x36 := x15 || x20
 let x37 := !x36
 let x38 := a.2.2.2.2.2.1.1.1.2.2.2.2.2.2.2.2.2.2.2.2
 let x39 := x17 && (x24 && (x31 && x30.2 == x38))
 let x40 := !x39
 let x41 := !x19
 let x42 := x15 || (x40 || (x41 || x19))
 let x43 := !x42
 let p4 := x43 :: x37 :: x35 :: x33 :: []
 let x44 := x15 || (x40 || x19)
 let x45 := !x44
 let p9 := x14 :: x45 :: p4
 let p11 := x39 :: x15 :: x45 :: p4
 let x46 := x5.2
 let x47 := x46.2
 let x48 := x47.1
 let x49 := Zf8 a.2.2.2.2.2.1.1 x9 x48
 let x50 := x49.2
 let x51 := x50.2
 let x52 : QT11 := (bif x10 then 0 else bif x11 then 0 else bif x12 then 0 else x49.1, bif x10 then 0 else bif x11 then a.2.2.2.2.2.1.1.1.2.1.2.2.2.2.2.2.2.2.2 else bif x12 then 0 else x50.1, bif x10 then 0 else bif x11 then 0 else bif x12 then 0 else x51.1, bif x10 then 0 else bif x11 then 0 else bif x12 then 0 else x51.2)
 let x53 : List ITMT := a.2.2.2.2.2.2.2.2.2.1 ++ [(x13, x52, 0, 1, a.2.2.2.2.2.1.1.1.2.2.1, x38)]
 let x54 := Nat.ble (List.length x53) most
 let x55 := orR p11 x54
 let x56 := !x55
 let p2 := x56 :: x8 :: x3 :: (!Zg a.2.2.1 (List.length a.1)) :: []
 let x57 := x9 == 1
 let x58 := !x57 || x54
 let x59 := !x58
 let p14 := x57 :: x59 :: p9
 let p17 := x41 :: p14
 let x60 := x9 == 7
 let x61 := !x60
 let x62 := setI a.2.2.2.2.2.2.2.2.2.1 x16 (x23, x52, x28)
 let x63 := Zg x16 (List.length x62)
 let x64 := !x63 || x63
 let x65 := x61 || x64
 let x66 := !x65
 let p21 := x66 :: p17
 let x67 := x61 || x63
 let x68 := !x67
 let p23 := x68 :: p21
 let x69 := x60 || x64
 let p27 := x60 :: (!x69) :: p23
 let x70 := orR p27 x63
 let x71 := !x70
 let p6 := x71 :: p2
 let x72 := orR p23 x69
 let x73 := !x72
 let p8 := x73 :: p6
 let x74 := orR p21 x67
 let x75 := !x74
 let p12 := x75 :: p8
 let x76 := orR p17 x65
 let x77 := !x76
 let p13 := x77 :: p12
 let x78 := orR p14 x19
 let x79 := !x78
 let p16 := x79 :: p13
 let x80 := orR p9 x58
 let x81 := !x80
 let p19 := x81 :: p16
 let x82 := orR p4 x44
 let x83 := !x82
 let p22 := x83 :: p19
 let x84 := x33 || (x35 || (x37 || x42))
 let x85 := !x84
 let p25 := x85 :: p22
 let x86 := x33 || (x35 || x36)
 let x87 := !x86
 let p28 := x87 :: p25
 let x88 := x33 || x34
 let x89 := !x88
 let p29 := x89 :: p28
 let p30 := x33 :: p29
 let x90 : Nat := List.length a.2.2.2.2.2.2.2.2.2.2.2.1
 let x91 := iN x90
 let x92 := decide (x91 > 0)
 let x93 := i64.wrap (x91 - 1)
 let x94 := !x92 || Zg x93 x90
 let x95 := !x94
 let x96 := x46.1
 let x97 := x96.2.2.1
 let x98 := !x97
 let x99 := Nat.ble (List.length ([] ++ a.2.2.2.2.2.1.1.2.2.1)) most
 let x100 := !x99
 let x101 : LINT := (false, false, false, false, false, false, false, false, false)
 let x102 : LINT × Bool × Bool × Bool × Bool × Int × Int := (x101, false, false, false, false, 0, 0)
 let x103 : List EVTT := a.2.2.2.2.2.2.2.2.2.2.1 ++ [Zxd (6, a.2.2.2.2.2.1.1.2.1, [] ++ a.2.2.2.2.2.1.1.2.2.1, x102) a.2.2.2.2.2.1.1.1 x96]
 let x104 := Nat.ble (List.length x103) most
 let x105 : TC := R.get Zx a.2.2.2.2.2.2.2.2.2.2.2.1 x93
 let x151 : List TC := [(R.sel Zx x92 x105 a.2.2.2.2.2.2.2.1)]
 let x152 : List TC := a.2.2.2.2.2.2.2.2.2.2.2.1 ++ x151
 let x153 := !x104 || Nat.ble (List.length x152) most
 let p1 := (!x153) :: x100 :: (!ZgD a.2.2.2.2.2.1.1) :: x98 :: []
 let x154 := orR p1 x104
 let x155 := !x154
 let x156 := x98 || (!ZgD a.2.2.2.2.2.1.1 || (x100 || x153))
 let x157 := !x156
 let x158 := x98 || (!ZgD a.2.2.2.2.2.1.1 || x99)
 let x159 := !x158
 let p3 := x159 :: x157 :: x155 :: x95 :: []
 let x160 : List EVTT := (bif ZgD a.2.2.2.2.2.1.1 then x103 else a.2.2.2.2.2.2.2.2.2.2.1) ++ [Zxd (4, 0, [], x102) a.2.2.2.2.2.1.1.1 x96]
 let x161 := Nat.ble (List.length x160) most
 let x162 := x4.1
 let x163 : List TC := (bif ZgD a.2.2.2.2.2.1.1 then x152 else a.2.2.2.2.2.2.2.2.2.2.2.1) ++ [x162.1.1]
 let x164 := !x161 || Nat.ble (List.length x163) most
 let x165 := x98 || (!x164 || x161)
 let x166 := !x165
 let p5 := x166 :: p3
 let x167 := x98 || x164
 let x168 := !x167
 let p10 := x97 :: x168 :: p5
 let x169 := Zf7 a.2.2.2.2.2.1.1 x96 x48
 let x170 := !x169
 let p15 := x170 :: p10
 let x171 := Zhi a.2.2.2.2.2.1.1 x96 x48
 let x172 := x171.2
 let x173 := !x172
 let x174 := Zp0 a.2.2.2.2.2.1.1 (Zay a.2.2.2.2.2.1.1) x48
 let x175 := !x174
 let x176 : List EVTT := a.2.2.2.2.2.2.2.2.2.2.1 ++ [Zxd (ZSr a.2.2.2.2.2.1.1.2.1, a.2.2.2.2.2.1.1.2.1, ZBL a.2.2.2.2.2.1.1 (Zay a.2.2.2.2.2.1.1) x48, x102) (Zn a.2.2.2.2.2.1.1.1 x96) x96]
 let x177 := Nat.ble (List.length x176) most
 let x178 : List TC := a.2.2.2.2.2.2.2.2.2.2.2.1 ++ [x171.1]
 let x179 := !x177 || Nat.ble (List.length x178) most
 let x180 := x173 || (x175 || (!x179 || x177))
 let x181 := !x180
 let p18 := x181 :: p15
 let x182 := x173 || (x175 || x179)
 let x183 := !x182
 let p20 := x183 :: p18
 let x184 := x173 || x174
 let x185 := !x184
 let p24 := x185 :: p20
 let x186 := x47.2
 let x187 := x186.2
 let x188 := !x187
 let x189 : List EVTT := bif x172 then x176 else a.2.2.2.2.2.2.2.2.2.2.1
 let x190 : List EVTT := x189 ++ [(5, 0, [], x101, false, false, false, false, x186.1)]
 let x191 := Nat.ble (List.length x190) most
 let x192 : List TC := bif x172 then x178 else a.2.2.2.2.2.2.2.2.2.2.2.1
 let x193 : List TC := x192 ++ x151
 let x194 := !x191 || Nat.ble (List.length x193) most
 let x195 := x188 || (!x194 || x191)
 let p26 := x188 :: (!x195) :: p24
 let x196 := orR p26 x194
 let x197 := !x196
 let p31 := x197 :: p30
 let x198 := orR p24 x195
 let x199 := !x198
 let p32 := x199 :: p31
 let x200 := orR p20 x184
 let x201 := !x200
 let p33 := x201 :: p32
 let x202 := orR p18 x182
 let x203 := !x202
 let p34 := x203 :: p33
 let x204 := orR p15 x180
 let x205 := !x204
 let p35 := x205 :: p34
 let x206 := orR p10 x169
 let x207 := !x206
 let p36 := x207 :: p35
 let x208 := orR p5 x167
 let x209 := !x208
 let p37 := x209 :: p36
 let x210 := orR p3 x165
 let x211 := !x210
 let p38 := x211 :: p37
 let x212 := x95 || (x155 || (x157 || x158))
 let x213 := !x212
 let p39 := x213 :: p38
 let x214 := x95 || (x155 || x156)
 let x215 := !x214
 let p40 := x215 :: p39
 let x216 := x95 || x154
 let p41 := (!x216) :: p40
 let x217 : ITMT := R.get ZJk x62 x16
 let x218 := x217.1
 let x219 := x217.2
 let x220 := x219.1
 let x221 := x219.2
 let x222 := x221.1
 let x223 := x221.2
 .br (decide (a.2.2.1 < a.2.1)) (.br (orR p41 x94) (.br (orR p40 x216) (.br (orR p39 x214) (.br (orR p38 x212) (.br (orR p37 x210) (.br (orR p36 x208) (.br (orR p35 x206) (.br (orR p34 x204) (.br (orR p33 x202) (.br (orR p32 x200) (.br (orR p31 x198) (.br (orR p30 x196) (.br (orR p29 x32) (.br (orR p28 x88) (.br (orR p25 x86) (.br (orR p22 x84) (.br (orR p19 x82) (.br (orR p16 x80) (.br (orR p13 x78) (.br (orR p12 x76) (.br (orR p8 x74) (.br (orR p6 x72) (.br (orR p2 x70) (.br (!Zg a.2.2.1 (List.length a.1) || (x3 || (x8 || x55))) (.br (!Zg a.2.2.1 (List.length a.1) || (x3 || x7)) (.br (!Zg a.2.2.1 (List.length a.1) || x2) (.br (Zg a.2.2.1 (List.length a.1)) (.leaf (some (Go1.cont (a.1, a.2.1, i64.wrap (a.2.2.1 + 1), a.2.2.2.1, a.2.2.2.2.1, x162, a.2.2.2.2.2.2.1, a.2.2.2.2.2.2.2.1, x6, bif x14 then bif x39 then setI a.2.2.2.2.2.2.2.2.2.1 x16 (x23, x27.1, x28.1, i64.wrap (x29.1 + 1), x30) else x53 else bif x57 then x53 else bif x60 then setI x62 x16 (x218, x220, i64.wrap (x222 + 1), x223) else setI x62 x16 (x218, x220, x222, i64.wrap (x223.1 + 1), x223.2), bif x97 then x160 else bif x187 then x190 else x189, bif x97 then x163 else bif x187 then x193 else x192, PUnit.unit)))) (.leaf none)) (.leaf none)) (.leaf none)) (.leaf none)) (.leaf none)) (.leaf none)) (.leaf none)) (.leaf none)) (.leaf none)) (.leaf none)) (.leaf none)) (.leaf none)) (.leaf none)) (.leaf none)) (.leaf none)) (.leaf none)) (.leaf none)) (.leaf none)) (.leaf none)) (.leaf none)) (.leaf none)) (.leaf none)) (.leaf none)) (.leaf none)) (.leaf none)) (.leaf none)) (.leaf none)) (.leaf (some (Go1.brk (a.1, a.2.1, a.2.2.1, a.2.2.2.1, a.2.2.2.2.1, a.2.2.2.2.2.1, a.2.2.2.2.2.2.1, a.2.2.2.2.2.2.2.1, a.2.2.2.2.2.2.2.2.1, a.2.2.2.2.2.2.2.2.2.1, a.2.2.2.2.2.2.2.2.2.2.1, a.2.2.2.2.2.2.2.2.2.2.2.1, PUnit.unit))))
def ZH0 : Ora := ZdV false ZSq ZeM (fun a => 1000000000000)
theorem ZHZ : ZcS (envX Tryz.prog [(30, ZfE), (79, Zee), (119, ZOj), (120, ZjZ), (121, ZpX), (122, Zbh), (123, Zfo), (124, ZaX)] [] 524287 8) (.block 0 (.loop (Zbc Tryz.f63.body 0))) ZH0 :=
 Zaa (Zag (l := [(30, ZfE), (79, Zee), (119, ZOj), (120, ZjZ), (121, ZpX), (122, Zbh), (123, Zfo), (124, ZaX)]) ⟨Zgl, ZdC, ZH1, Zom, Zuj, ZcW, ZgQ, Zcb, trivial⟩ [] 524287 8) (ZO (by kernel_rfl)) (fun a => by kernel_rfl)
def ZHX (b : BRDT) (l : List Int) : RT (Option (RUNT × Int)) :=
 let x1 : SYST := (((0, (0, 0, 0, 0, 0, 0, 0, (false, false, false, false, false, false, false), 0, 0), false, false, false, 0, false, false, false, false, false, false, false), 0, [], (0, 0, 0, 0), 0, false), [], (0, false, false, false, false, 0, 0, false, false, false, false, false, 0, 0, 0, 0, 0, 0, 0, false), (0, 0, 0), 0, [])
 let x2 : RUNT := ([], [], [], [], x1)
 let x3 : List INPT × Int × Int × BRDT × RUNT × SYST × SYST × TC × List PINT × List ITMT × List EVTT × List TC × PUnit := (Za1 l, iN (List.length (Za1 l)), 0, b, x2, (wNew b).1, x1, (wNew b).1.1.1, [], [], [], [], ())
 let x4 := runF false ZeM (fun a => 1000000000000) x3
 let x5 : SYST × SYST × TC × List PINT × List ITMT × List EVTT × List TC × PUnit := (getO (false, x3) x4).2.2.2.2.2.2
 let x6 := x5.1
 let x7 := x6.1
 let x8 := ZgD x7
 let x9 := !x8
 let x10 := x5.2.2
 let x11 := x10.2
 let x12 := x11.2
 let x13 := x12.2
 let x14 := x13.2.1
 let x15 : Nat := List.length x14
 let x16 := iN x15
 let x17 := decide (x16 > 0)
 let x18 := i64.wrap (x16 - 1)
 let x19 := x7.2
 let x20 : List Int := [] ++ x19.2.1
 let x21 := Nat.ble (List.length x20) most
 let x22 := x13.1
 let x23 : List EVTT := x22 ++ [(7, x19.1, x20, (false, false, false, false, false, false, false, false, false), false, false, false, false, 0, 0)]
 let x24 : TC := R.get Zx x14 x18
 let x78 : List TC := x14 ++ [(R.sel Zx x17 x24 (getO (false, x3) x4).2.2.2.2.2.2.2.2.1)]
 let x79 := x11.1
 let x80 := x12.1
 .br (ZOk b) (.br ((wNew b).2 != 0) (.leaf (some ((x2, (wNew b).2)))) (.br (Zj0 l) (.br (okB x4) (.br (x9 || (!x17 || Zg x18 x15)) (.br (x9 || (!x21 || Nat.ble (List.length x23) most)) (.br (x9 || x21) (.br (x9 || Nat.ble (List.length x78) most) (.br (x8) (.leaf (some (((x79, x80, x23, x78, x6), 0)))) (.leaf (some (((x79, x80, x22, x14, x6), 0))))) (.leaf none)) (.leaf none)) (.leaf none)) (.leaf none)) (.leaf none)) (.leaf none))) (.leaf none)
def wRun (b : BRDT) (l : List Int) : RUNT × Int := getO ZHY.dflt (ZHX b l).val
def ZOi (b : BRDT) (l : List Int) : Bool := okB (ZHX b l).val
def ZUN : Entry := Zf ZQJ ZHY (fun a => some (ZOi a.1 a.2)) (fun a => wRun a.1 a.2)
theorem ZSo : Zc Tryz.prog 63 ZUN :=
 pureP 524287 [(30, ZfE), (79, Zee), (119, ZOj), (120, ZjZ), (121, ZpX), (122, Zbh), (123, Zfo), (124, ZaX)] [(0, ZH0)] ZQJ ZHY ⟨Zgl, ZdC, ZH1, Zom, Zuj, ZcW, ZgQ, Zcb, trivial⟩ Tryz.func63 Tryz.call63 ⟨ZHZ, trivial⟩ (t := fun a => ZHX a.1 a.2) (fun a => by kernel_rfl)
end
end Go.Proofs.YtghoimllhpjkjaaGreat
