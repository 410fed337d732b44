/-
  Contracts of functions; each found by the symbolic executor and checked by the kernel. Conditions: none.
-/
import Derived.Test.YtghoimllhpjkjaaGreatMemD
import Derived.RangeFuncNested
import Derived.RangeFuncLeaves
import Derived.Shelf.Abstract
import Derived.WalkKit
import Derived.OwnWalkIn
import Derived.TacticsInMore
import Derived.LoopNIn
import Derived.LoopIn
import Derived.Test.YtghoimllhpjkjaaGreatS3D
import Derived.Test.YtghoimllhpjkjaaGreatProg
import Derived.Test.YtghoimllhpjkjaaGreatSortA
import Derived.Test.YtghoimllhpjkjaaGreatS3Clo
import Derived.Test.YtghoimllhpjkjaaGreatMakeOk5
import Derived.Test.YtghoimllhpjkjaaGreatS3Box1
import Derived.Test.YtghoimllhpjkjaaGreatPicL
set_option linter.unusedVariables false
set_option linter.unusedSimpArgs false
namespace Go.Proofs.YtghoimllhpjkjaaGreat
open Go Go.S3 Go.Proofs Go.Proofs.Cells Go.RowKit Go.Shelf
attribute [local go_sem] Oper.semAt_some
noncomputable section
def Held (n₀ : Nat) (W : World) (sv : Value) (l : List Cell) : Prop :=
 (∃ a cap, sv = .slice a 0 cap ∧ l = []) ∨ ∃ b off cap, sv = .slice (some ⟨b, off, none⟩) l.length cap ∧ b < n₀ ∧
  ∀ j, j < l.length → W.cell? ⟨b, off + j * 2, none⟩ = some (.int .u16 (el l j).1) ∧ W.cell? ⟨b, off + j * 2 + 1, none⟩ = some (.int .u8 (el l j).2)
theorem Held.mono {n₀ n₁ : Nat} {W : World} {sv : Value} {l : List Cell} (h : Held n₀ W sv l) (hn : n₀ ≤ n₁) : Held n₁ W sv l :=
 h.elim .inl fun ⟨b, off, cap, e, hb, hc⟩ => .inr ⟨b, off, cap, e, by omega, hc⟩
end
end Go.Proofs.YtghoimllhpjkjaaGreat
set_option linter.unusedVariables false
set_option linter.unusedSimpArgs false
namespace Go.Proofs.YtghoimllhpjkjaaGreat
open Go Go.S3 Go.Proofs Go.Proofs.Cells Go.RowKit Go.Shelf
attribute [local go_sem] Oper.semAt_some
noncomputable section
end
end Go.Proofs.YtghoimllhpjkjaaGreat
open Go.IntKind (u8 u16 i64)
set_option linter.unusedSimpArgs false
open Go Go.S3 Go.Proofs
set_option linter.unusedVariables false
set_option maxRecDepth 100000
namespace Go.Proofs.YtghoimllhpjkjaaGreat
noncomputable section
abbrev ZM4 : List Sh := [Sh.agg (R.pair (R.int u16) (R.int u8)), Sh.one (R.int u16)]
abbrev ZM5 : Rs := Rs.one (Sh.one (R.int i64))
def uAtT (c : Int × Int) (t : Int) : RT (Int) :=
 .leaf (uCmp c.1 t)
def uAt (c : Int × Int) (t : Int) : Int := (uAtT c t).val
def uAtE : Entry := Zk ZM4 ZM5 (fun _ => none) (fun a => uAt a.1 a.2)
theorem ZCQ : Zc Tryz.prog 296 uAtE :=
 pureQ 31 [(186, ZKZ)] [] ZM4 ZM5 ⟨ZCN, trivial⟩ Tryz.func296 Tryz.call296 trivial (t := fun a => uAtT a.1 a.2) (fun a => by kernel_rfl)
abbrev ZCM : List Sh := [Sh.one rcCE, Sh.one (R.int u16)]
abbrev ZtG : Rs := Rs.tup [Sh.one (R.int i64), Sh.one R.bool]
def ZHs : LS := { n := 49, slots := [(0, .code (Sh.one rcCE)), (1, .code (Sh.one (R.int u16))), (2, .fix (A.clo 296 [])), (8, .code (Sh.one (R.int i64))), (9, .code (Sh.one (R.int i64))), (10, .code (Sh.one (R.int i64)))], boxes := [], stgs := [] }
def Zfk (a : List (Int × Int) × Int × Int × Int × Int × PUnit) : RT (Option (Go1 (List (Int × Int) × Int × Int × Int × Int × PUnit))) :=
 let x1 := i64.wrap (shrI IntKind.u64 (IntKind.u64.wrap (i64.wrap (a.2.2.2.1 + a.2.2.2.2.1))) 1)
 let x2 := decide (uAt (R.get (R.pair (R.int u16) (R.int u8)) a.1 x1) a.2.1 < 0)
 .br (decide (a.2.2.2.1 < a.2.2.2.2.1)) (.br (Zf x1 (List.length a.1)) (.leaf (some (Go1.cont (a.1, a.2.1, a.2.2.1, bif x2 then i64.wrap (x1 + 1) else a.2.2.2.1, bif x2 then a.2.2.2.2.1 else x1, PUnit.unit)))) (.leaf none)) (.leaf (some (Go1.brk (a.1, a.2.1, a.2.2.1, a.2.2.2.1, a.2.2.2.2.1, PUnit.unit))))
def Zxq : Ora := Zcj false ZHs Zfk (fun a => (a.2.2.2.2.1 - a.2.2.2.1).toNat + 1)
theorem ZzF : ZbF (envX Tryz.prog [(296, uAtE)] [] 4095 8) (.block 0 (.loop (ZaA Tryz.f295.body 0))) Zxq :=
 ZP (ZT (l := [(296, uAtE)]) ⟨ZCQ, trivial⟩ [] 4095 8) (Zz (by kernel_rfl)) (fun a => by kernel_rfl)
def Zmz (x : List (Int × Int)) (t : Int) : RT (Option (Int × Bool)) :=
 let x1 : List (Int × Int) × Int × Int × Int × Int × PUnit := (x, t, iN (List.length x), 0, iN (List.length x), ())
 let x2 := runF false Zfk (fun a => Int.toNat (a.2.2.2.2.1 - a.2.2.2.1) + 1) x1
 let x3 : List (Int × Int) × Int × Int × Int × Int × PUnit := (getO (false, x1) x2).2
 let x4 := x3.2
 let x5 := x4.2
 let x6 := x5.2.1
 let x7 := decide (x6 < x5.1)
 let x8 := x3.1
 .br (okB x2) (.br (!x7 || Zf x6 (List.length x8)) (.leaf (some ((bif x7 then x6 else x6, x7 && uAt (R.get (R.pair (R.int u16) (R.int u8)) x8 x6) x4.1 == 0)))) (.leaf none)) (.leaf none)
def Zc6 (x : List (Int × Int)) (t : Int) : Int × Bool := getO ZtG.dflt (Zmz x t).val
def Zxr (x : List (Int × Int)) (t : Int) : Bool := okB (Zmz x t).val
def ZJs : Entry := ZEj 296 ZCM ZtG (fun a => some (Zxr a.1 a.2)) (fun a => Zc6 a.1 a.2)
theorem ZHr : Zc Tryz.prog 295 ZJs :=
 ZAE (P := Tryz.prog) (n := 4095) (k := 8) (l := [(296, uAtE)]) (ol := [(0, Zxq)]) ⟨ZCQ, trivial⟩ Tryz.func295 rfl (by kernel_rfl) Tryz.call295 ⟨ZzF, trivial⟩ (g0 := 296) (ts := ZCM) (rs := ZtG) (t := fun a => Zmz a.1 a.2) (fun a => by kernel_rfl)
abbrev ZKz : List Sh := [Sh.one rcCE, Sh.one (R.int u16), Sh.one (R.int u8)]
abbrev ZGd : Rs := Rs.one (Sh.one rcCE)
def ZBQ (m : List (Int × Int)) (t : Int) (v : Int) : RT (Option (List (Int × Int))) :=
 let x1 := !(v == 0 && !(Zc6 m t).2) || Nat.ble (List.length m) most
 let x2 := !x1
 let x3 := v == 0 && !(Zc6 m t).2 || (!v == 0 || (!Nat.ble (List.length m) most || decide (0 ≤ (Zc6 m t).1) && decide ((Zc6 m t).1 < iN (List.length m)) && decide (i64.wrap ((Zc6 m t).1 + 1) = (Zc6 m t).1 + 1)))
 let x4 := !x3
 let x5 := v == 0 && !(Zc6 m t).2 || (!v == 0 || Nat.ble (List.length m) most)
 let x6 := !x5
 let x7 := v == 0 && !(Zc6 m t).2 || (v == 0 || (!(Zc6 m t).2 || Nat.ble (List.length m) most))
 .br (ZqJ m) (.br (!!Zlx m || (!Nat.ble (List.length m) most || (!Nat.ble (List.length (m ++ [(t, v)])) most || ZsU (m ++ [(t, v)])))) (.br (!!Zlx m || (!Nat.ble (List.length m) most || Nat.ble (List.length (m ++ [(t, v)])) most)) (.br (!!Zlx m || Nat.ble (List.length m) most) (.br (!Zlx m) (.leaf (some (ZGi (m ++ [(t, v)])))) (.br (Zxr m t) (.br (x2 || (x4 || (x6 || (!x7 || (v == 0 && !(Zc6 m t).2 || (v == 0 || (!(Zc6 m t).2 || Zf (Zc6 m t).1 (List.length m)))))))) (.br (x2 || (x4 || (x6 || x7))) (.br (x2 || (x4 || x5)) (.br (x2 || x3) (.br (x1) (.br (v == 0 && !(Zc6 m t).2) (.leaf (some (m))) (.br (v == 0) (.leaf (some (delX m (Int.toNat (Zc6 m t).1)))) (.br (Zc6 m t).2 (.leaf (some (setI m (Zc6 m t).1 ((R.get (R.pair (R.int u16) (R.int u8)) m (Zc6 m t).1).1, v)))) (.br (!Nat.ble (List.length m) most || decide (0 ≤ (Zc6 m t).1) && decide ((Zc6 m t).1 ≤ iN (List.length m)) && Nat.ble (List.length m + 1) most) (.br (Nat.ble (List.length m) most) (.leaf (some (insX m (Int.toNat (Zc6 m t).1) (t, v)))) (.leaf none)) (.leaf none))))) (.leaf none)) (.leaf none)) (.leaf none)) (.leaf none)) (.leaf none)) (.leaf none))) (.leaf none)) (.leaf none)) (.leaf none)) (.leaf none)
def mPut (m : List (Int × Int)) (t : Int) (v : Int) : List (Int × Int) := getO ZGd.dflt (ZBQ m t v).val
def ZIP (m : List (Int × Int)) (t : Int) (v : Int) : Bool := okB (ZBQ m t v).val
def ZNW : Entry := Zk ZKz ZGd (fun a => some (ZIP a.1 a.2.1 a.2.2)) (fun a => mPut a.1 a.2.1 a.2.2)
theorem ZMv : Zc Tryz.prog 246 ZNW :=
 Zkm (P := Tryz.prog) (n := 35253225784319) (k := 108) (l := [(117, ZGh), (183, Zl8), (294, ZGb), (295, ZJs), (296, uAtE), (297, delE), (298, insE)]) (ol := []) ⟨ZqN, Zl7, ZF9, ZHr, ZCQ, ZN7, ZN3, trivial⟩ Tryz.func246 rfl (by kernel_rfl) Tryz.call246 trivial (ts := ZKz) (rs := ZGd) (t := fun a => ZBQ a.1 a.2.1 a.2.2) (fun a => by kernel_rfl)
end
end Go.Proofs.YtghoimllhpjkjaaGreat
open Go Go.S3 Go.Proofs Go.Proofs.Cells
set_option linter.unusedVariables false
set_option linter.unusedSimpArgs false
set_option maxRecDepth 100000
namespace Go.Proofs.YtghoimllhpjkjaaGreat
noncomputable section
theorem ZCO (x y : Int) : decide (uCmp x y < 0) = decide (x < y) := by
 simp only [uCmp, ZCP, RT.val, bne_self_eq_false, cond_false]
 by_cases h : x < y
 ·simp [h]
 ·by_cases h2 : x > y <;> simp [h, h2]
theorem ZKY (x y : Int) : (uCmp x y == 0) = (x == y) := by
 simp only [uCmp, ZCP, RT.val, bne_self_eq_false, cond_false]
 by_cases h : x < y
 ·have : x ≠ y := by omega
  simp [h, this]
 ·by_cases h2 : x > y
  ·have : x ≠ y := by omega
   simp [h, h2, this]
  ·have : x = y := by omega
   simp [h, h2, this]
theorem ZCR (c : Cell) (t : Int) : uAt c t = uCmp c.1 t := rfl
def At (m : List Cell) (t : Int) (i : Nat) : Prop := i ≤ m.length ∧ (∀ k, k < i → (el m k).1 < t) ∧ ∀ k, i ≤ k → k < m.length → t ≤ (el m k).1
theorem ZCn (m : List Cell) (t : Int) (hv : Vld m) (hm : m.length ≤ most) : Zxr m t = true ∧ ∃ i, At m t i ∧ Zc6 m t = ((i : Int), decide (i < m.length) && ((el m i).1 == t)) := by
 have hms := mst
 obtain ⟨r, hr, h1, i, hi, hR⟩ := Zag (fl := false) (t := Zfk) (fuel := fun a => Int.toNat (a.2.2.2.2.1 - a.2.2.2.1) + 1)
  (fun a => ∃ lo hi : Nat, lo ≤ hi ∧ hi ≤ m.length ∧ (∀ k, k < lo → (el m k).1 < t) ∧ (∀ k, hi ≤ k → k < m.length → t ≤ (el m k).1) ∧ a = (m, t, (m.length : Int), (lo : Int), (hi : Int), ()))
  (fun a => Int.toNat (a.2.2.2.2.1 - a.2.2.2.1)) (fun r => r.1 = false ∧ ∃ i : Nat, At m t i ∧ r.2 = (m, t, (m.length : Int), (i : Int), (i : Int), ()))
  (by
   rintro a ⟨lo, hi, h1, h2, h3, h4, rfl⟩
   by_cases hlt : lo < hi
   ·left
    have d : decide ((lo : Int) < (hi : Int)) = true := by simpa using hlt
    have hmid := ZlQ lo hi (by omega)
    obtain ⟨M, hM⟩ : ∃ M, M = (lo + hi) / 2 := ⟨_, rfl⟩
    rw [← hM] at hmid
    have r1 := Zbg m M (by omega)
    have g := ZdZ m M
    have w := ZnF M (by omega)
    by_cases hc : (el m M).1 < t
    ·have dc : decide (uAt (el m M) t < 0) = true := by rw [ZCR, ZCO]; simpa using hc
     refine ⟨(m, t, (m.length : Int), ((M + 1 : Nat) : Int), (hi : Int), ()), ?_, ⟨M + 1, hi, by omega, h2, fun k hk => ?_, h4, rfl⟩, by simp only; omega⟩
     ·simp only [Zfk, RT.val, d, hmid, r1, g, dc, w, cond_true]
     ·by_cases e : k = M
      ·subst e; exact hc
      ·by_cases e2 : k < lo
       ·exact h3 k e2
       ·have := List.pairwise_iff_getElem.1 hv.1 k M (by omega) (by omega) (by omega)
        have e1 := ZcA m k (by omega)
        have e3 := ZcA m M (by omega)
        rw [List.getElem?_eq_getElem (by omega), oinj] at e1 e3
        rw [e1, e3] at this; omega
    ·have dc : decide (uAt (el m M) t < 0) = false := by rw [ZCR, ZCO]; simpa using hc
     refine ⟨(m, t, (m.length : Int), (lo : Int), (M : Int), ()), ?_, ⟨lo, M, by omega, by omega, h3, fun k hk hk2 => ?_, rfl⟩, by simp only; omega⟩
     ·simp only [Zfk, RT.val, d, hmid, r1, g, dc, cond_true, cond_false]
     ·by_cases e : k = M
      ·subst e; omega
      ·have := List.pairwise_iff_getElem.1 hv.1 M k (by omega) (by omega) (by omega)
       have e1 := ZcA m k (by omega)
       have e3 := ZcA m M (by omega)
       rw [List.getElem?_eq_getElem (by omega), oinj] at e1 e3
       rw [e1, e3] at this; omega
   ·right; left
    have d : decide ((lo : Int) < (hi : Int)) = false := by simpa using hlt
    have : hi = lo := by omega
    subst this
    exact ⟨_, by simp only [Zfk, RT.val, d, cond_false], rfl, hi, ⟨h2, h3, h4⟩, rfl⟩)
  (m, t, iN m.length, 0, iN m.length, ()) ⟨0, m.length, Nat.zero_le _, Nat.le_refl _, fun k h => by omega, fun k h1 h2 => by omega, rfl⟩ (by simp only [iN]; omega)
 obtain ⟨r1, r2⟩ := r
 simp only at h1 hR
 subst h1 hR
 have hd : decide ((i : Int) < (m.length : Int)) = decide (i < m.length) := by simp
 have hv : (Zmz m t).val = some ((i : Int), decide (i < m.length) && ((el m i).1 == t)) := by
  have g := ZdZ m i
  by_cases hlt : i < m.length
  ·have r1 := Zbg m i hlt
   have hd : decide ((i : Int) < (m.length : Int)) = true := by simpa using hlt
   simp only [Zmz, RT.val, hr, okB, getO, cond_true, hd, r1, Bool.not_true, Bool.false_or, g, ZCR, ZKY, hlt, decide_true, Bool.true_and]
  ·have hd : decide ((i : Int) < (m.length : Int)) = false := by simpa using hlt
   simp only [Zmz, RT.val, hr, okB, getO, cond_true, cond_false, hd, Bool.not_false, Bool.true_or, hlt, decide_false, Bool.false_and]
 exact ⟨by simp only [Zxr, hv]; rfl, i, hi, by simp only [Zc6, hv, getO]⟩
theorem ZEh : ∀ (i : Nat) (m : List Cell) (c : Cell), i ≤ m.length → (∀ k, k < i → (el m k).1 < c.1) → putX m c = m.take i ++ putX (m.drop i) c
 | 0, m, c, _, _ => by simp
 | i + 1, [], c, h, _ => by simp at h
 | i + 1, x :: m, c, h, hk => by
  have h0 : x.1 < c.1 := hk 0 (by omega)
  rw [putX, if_pos h0, ZEh i m c (by simpa using h) (fun k h' => hk (k + 1) (by omega))]
  simp
theorem ZEg (m : List Cell) (t v : Int) (i : Nat) (h : At m t i) :
  (v = 0 → (decide (i < m.length) && ((el m i).1 == t)) = false → putX m (t, v) = m) ∧
  (v = 0 → (decide (i < m.length) && ((el m i).1 == t)) = true → putX m (t, v) = delX m i) ∧
  (v ≠ 0 → (decide (i < m.length) && ((el m i).1 == t)) = true → putX m (t, v) = setI m (i : Int) ((el m i).1, v)) ∧
  (v ≠ 0 → (decide (i < m.length) && ((el m i).1 == t)) = false → putX m (t, v) = insX m i (t, v)) := by
 obtain ⟨h1, h2, h3⟩ := h
 have hp := ZEh i m (t, v) h1 h2
 by_cases hlt : i < m.length
 ·have hd := Zw1 m i hlt
  have hge := h3 i (Nat.le_refl _) hlt
  have hn : ¬ (el m i).1 < t := by omega
  rw [hd] at hp
  simp only [putX, if_neg hn] at hp
  simp only [hlt, decide_true, Bool.true_and]
  refine ⟨fun hz he => ?_, fun hz he => ?_, fun hz he => ?_, fun hz he => ?_⟩
  ·have he : (el m i).1 ≠ t := by simpa using he
   rw [hp, if_pos hz, if_neg he, ← hd, List.take_append_drop]
  ·have he : (el m i).1 = t := by simpa using he
   rw [hp, if_pos hz, if_pos he, delX]
  ·have he : (el m i).1 = t := by simpa using he
   rw [hp, if_neg hz, if_pos he, setI, Int.toNat_natCast, he, List.set_eq_take_append_cons_drop, if_pos hlt]
  ·have he : (el m i).1 ≠ t := by simpa using he
   rw [hp, if_neg hz, if_neg he, insX, ← hd]; simp
 ·have he : i = m.length := by omega
  subst he
  simp only [List.drop_length, putX] at hp
  simp only [Nat.lt_irrefl, decide_false, Bool.false_and]
  refine ⟨fun hz _ => ?_, fun hz he => by simp at he, fun hz he => by simp at he, fun hz _ => ?_⟩
  ·rw [hp, if_pos hz]; simp
  ·rw [hp, if_neg hz, insX]; simp
theorem ZIM (m : List Cell) (t v : Int) (hm : m.length + 1 ≤ most) : ZIP m t v = true ∧ mPut m t v = putX (normX m) (t, v) := by
 have hms := mst
 have hv1 := ZF4 m (by omega)
 have hb1 : Nat.ble m.length most = true := by rw [Nat.ble_eq]; omega
 have hv : (ZBQ m t v).val = some (putX (normX m) (t, v)) := by
  cases hval : vldB m with
  | false =>
   have hl : (m ++ [(t, v)]).length ≤ most := by simp; omega
   have hb2 : Nat.ble (m ++ [(t, v)]).length most = true := by rw [Nat.ble_eq]; exact hl
   obtain ⟨n1, n2⟩ := Zls (m ++ [(t, v)]) hl
   simp only [ZBQ, RT.val, hv1.1, hv1.2, hval, hb1, hb2, n1, n2, ZBK, Bool.not_false, Bool.not_true, Bool.or_true, Bool.or_self, cond_true]
  | true =>
   have hV := ZHj.1 hval
   obtain ⟨f1, i, hi, f2⟩ := ZCn m t hV (by omega)
   obtain ⟨q1, q2, q3, q4⟩ := ZEg m t v i hi
   have hile : decide ((i : Int) ≤ iN m.length) = true := by simpa [iN] using hi.1
   have hi0 : decide ((0 : Int) ≤ (i : Int)) = true := by simp
   have hb3 : Nat.ble (m.length + 1) most = true := by rw [Nat.ble_eq]; omega
   have w := ZnF i (by have := hi.1; omega)
   have g := ZdZ m i
   rw [ZBL hV]
   simp only [ZBQ, RT.val, hv1.1, hv1.2, hval, hb1, f1, f2, hile, hi0, hb3, w, g, Bool.not_true, Bool.not_false, Bool.true_or, Bool.or_true, Bool.or_false, Bool.false_or, Bool.and_self, Bool.true_and, cond_true, cond_false, Int.toNat_natCast]
   cases hfd : (decide (i < m.length) && ((el m i).1 == t)) with
   | true =>
    have hlt : i < m.length := by
     rw [Bool.and_eq_true, decide_eq_true_eq] at hfd; exact hfd.1
    have r1 := Zbg m i hlt
    have hd : decide ((i : Int) < iN m.length) = true := by simpa [iN] using hlt
    have hw : decide (((i + 1 : Nat) : Int) = (i : Int) + 1) = true := by simp
    by_cases hz : v = 0
    ·have hz1 : (v == 0) = true := by simpa using hz
     simp only [hz1, r1, hd, hw, q2 hz hfd, Bool.not_true, Bool.not_false, Bool.and_false, Bool.and_true, Bool.true_or, Bool.or_true, Bool.or_false, Bool.false_or, Bool.and_self, cond_true, cond_false]
    ·have hz1 : (v == 0) = false := by simpa using hz
     simp only [hz1, r1, hd, hw, q3 hz hfd, Bool.not_true, Bool.not_false, Bool.false_and, Bool.and_false, Bool.and_true, Bool.true_or, Bool.or_true, Bool.or_false, Bool.false_or, Bool.and_self, cond_true, cond_false]
   | false =>
    by_cases hz : v = 0
    ·have hz1 : (v == 0) = true := by simpa using hz
     simp only [hz1, q1 hz hfd, Bool.not_true, Bool.not_false, Bool.and_false, Bool.and_true, Bool.true_or, Bool.or_true, Bool.or_false, Bool.false_or, Bool.and_self, cond_true, cond_false]
    ·have hz1 : (v == 0) = false := by simpa using hz
     simp only [hz1, q4 hz hfd, Bool.not_true, Bool.not_false, Bool.false_and, Bool.and_false, Bool.and_true, Bool.true_or, Bool.or_true, Bool.or_false, Bool.false_or, Bool.and_self, cond_true, cond_false]
 exact ⟨by simp only [ZIP, hv]; rfl, by simp only [mPut, hv, getO]⟩
end
end Go.Proofs.YtghoimllhpjkjaaGreat
open Go.IntKind (u8 u16 i64)
set_option linter.unusedSimpArgs false
open Go Go.S3 Go.Proofs
set_option linter.unusedVariables false
set_option maxRecDepth 100000
namespace Go.Proofs.YtghoimllhpjkjaaGreat
noncomputable section
abbrev Zkn : List Sh := [Sh.one rcRG, Sh.one rcCE, Sh.one (R.int u16), Sh.one (R.int u8)]
abbrev ZgI : Rs := Rs.one (Sh.one rcCE)
def ZgH (l : List (QT8)) (m : List (Int × Int)) (t : Int) (v : Int) : RT (Option (List (Int × Int))) :=
 let x1 := decide (ZA3 l t ≥ 0) && (R.get (R.pair (R.int u16) (R.pair (R.int u16) (R.pair R.bool (R.int i64)))) l (ZA3 l t)).2.2.1
 .br (ZFl l t) (.br (!decide (ZA3 l t ≥ 0) || Zf (ZA3 l t) (List.length l)) (.br (!x1 || ZIP m t v) (.br (x1) (.leaf (some (mPut m t v))) (.br (ZsU m) (.leaf (some (ZGi m))) (.leaf none))) (.leaf none)) (.leaf none)) (.leaf none)
def Zvc (l : List (QT8)) (m : List (Int × Int)) (t : Int) (v : Int) : List (Int × Int) := getO ZgI.dflt (ZgH l m t v).val
def Zpm (l : List (QT8)) (m : List (Int × Int)) (t : Int) (v : Int) : Bool := okB (ZgH l m t v).val
def ZH4 : Entry := Zk Zkn ZgI (fun a => some (Zpm a.1 a.2.1 a.2.2.1 a.2.2.2)) (fun a => Zvc a.1 a.2.1 a.2.2.1 a.2.2.2)
theorem ZAK : Zc Tryz.prog 187 ZH4 :=
 pureP 1023 [(117, ZGh), (245, ZKp), (246, ZNW)] [] Zkn ZgI ⟨ZqN, ZIp, ZMv, trivial⟩ Tryz.func187 Tryz.call187 trivial (t := fun a => ZgH a.1 a.2.1 a.2.2.1 a.2.2.2) (fun a => by kernel_rfl)
end
end Go.Proofs.YtghoimllhpjkjaaGreat
open Go Go.S3 Go.Proofs Go.Proofs.Cells
set_option linter.unusedVariables false
set_option linter.unusedSimpArgs false
set_option maxRecDepth 100000
namespace Go.Proofs.YtghoimllhpjkjaaGreat
noncomputable section
def sm {α : Type} (l : List α) : Bool := Nat.ble (l.length + 1) most
def smC (l : List (Int × Int)) : Bool := sm l
def smG (l : List ZbB) : Bool := sm l
theorem ZJy {α : Type} {l : List α} : sm l = true ↔ l.length + 1 ≤ most := by simp [sm]
theorem ZK5 {α : Type} {l : List α} (h : sm l = true) : l.length ≤ most := by have := ZJy.1 h; omega
theorem ZI7 (l : List ZbB) (t : Int) : -1 ≤ Zdl l t ∧ (Zdl l t < 0 ∨ ∃ i : Nat, i < l.length ∧ Zdl l t = i) := by
 unfold Zdl
 split
 ·rename_i h; exact ⟨by omega, .inr ⟨_, h, rfl⟩⟩
 ·exact ⟨by omega, .inl (by omega)⟩
theorem ZGC (l : List ZbB) (t : Int) (h : 0 ≤ Zdl l t) : Zf (Zdl l t) l.length = true := by
 rcases (ZI7 l t).2 with h1 | ⟨i, hi, e⟩
 ·omega
 ·rw [e]; exact Zbg l i hi
def Zhf (l : List ZbB) (m : List Cell) (t v : Int) : List Cell := bif decide (Zdl l t ≥ 0) && (R.get GR l (Zdl l t)).2.2.1 then putX (normX m) (t, v) else normX m
theorem ZAC (l : List ZbB) (m : List Cell) (t v : Int) (hl : l.length ≤ most) (hm : m.length + 1 ≤ most) : Zpm l m t v = true ∧ Zvc l m t v = Zhf l m t v := by
 have h1 := ZEr l t hl
 have h2 := ZIM m t v hm
 have h3 := Zls m (by omega)
 have hv : (ZgH l m t v).val = some (Zhf l m t v) := by
  have hr : (!decide (Zdl l t ≥ 0) || Zf (Zdl l t) l.length) = true := by
   by_cases h : 0 ≤ Zdl l t
   ·rw [ZGC l t h]; simp
   ·have : decide (Zdl l t ≥ 0) = false := by simp; omega
    rw [this]; rfl
  simp only [ZgH, RT.val, h1.1, h1.2, h2.1, h2.2, h3.1, h3.2, hr, Bool.or_true, cond_true, Zhf]
  cases decide (Zdl l t ≥ 0) && (R.get GR l (Zdl l t)).2.2.1 <;> rfl
 exact ⟨by simp only [Zpm, hv]; rfl, by simp only [Zvc, hv, getO]⟩
theorem ZtH {P : Program} {f : FuncId} {ts : List Sh} {rs : Rs} {C : HL ts → Bool} {F G : HL ts → rs.den} (h : Zc P f (Zk ts rs (fun a => some (C a)) F)) {pre : HL ts → Bool} (hp : ∀ a, pre a = true → C a = true ∧ F a = G a) :
  Zc P f (Zk ts rs (fun a => some (pre a)) G) := by
 have key : ∀ a, some (pre a) ≠ some false → pre a = true := fun a h => by cases hq : pre a with
  | true => rfl
  | false => rw [hq] at h; exact absurd rfl h
 exact h.pure_congr (fun a _ hq => by rw [(hp a (key a hq)).1]; simp) (fun a _ hq => (hp a (key a hq)).2)
def ZqP : Entry := Zk ZwO ZqO (fun a => some (smC a)) (fun a => normX a)
theorem ZsV : Zc Tryz.prog 117 ZqP := ZtH ZqN fun a h => Zls a (ZK5 h)
def ZxK : Entry := Zk Zoh ZiO (fun a => some (smC a.1)) (fun a => decide ((a.1 : List Cell) = a.2))
theorem ZzO : Zc Tryz.prog 39 ZxK := ZtH ZDi fun a h => ZC9 a.1 a.2 (ZK5 h)
def ZgJ : Entry := Zk Zkn ZgI (fun a => some (smG a.1 && smC a.2.1)) (fun a => Zhf a.1 a.2.1 a.2.2.1 a.2.2.2)
theorem Zko : Zc Tryz.prog 187 ZgJ := ZtH ZAK fun a h => by rw [Bool.and_eq_true] at h; exact ZAC a.1 a.2.1 a.2.2.1 a.2.2.2 (ZK5 h.1) (ZJy.1 h.2)
end
end Go.Proofs.YtghoimllhpjkjaaGreat
set_option linter.unusedSimpArgs false
open Go Go.S3 Go.Proofs
set_option linter.unusedVariables false
set_option maxRecDepth 100000
namespace Go.Proofs.YtghoimllhpjkjaaGreat
noncomputable section
end
end Go.Proofs.YtghoimllhpjkjaaGreat
set_option linter.unusedSimpArgs false
open Go Go.S3 Go.Proofs
set_option linter.unusedVariables false
set_option maxRecDepth 100000
namespace Go.Proofs.YtghoimllhpjkjaaGreat
noncomputable section
end
end Go.Proofs.YtghoimllhpjkjaaGreat
