/-
  Memories and regions: contracts by plain functions, one for the program and the reference. Conditions: none.
-/
import Derived.Test.YtghoimllhpjkjaaGreatMemD
import Derived.RangeFuncNested
import Derived.RangeFuncLeaves
import Derived.Shelf.Abstract
import Derived.WalkKit
import Derived.OwnWalkIn
import Derived.TacticsInMore
import Derived.LoopNIn
import Derived.LoopIn
import Derived.Test.YtghoimllhpjkjaaGreatS3D
import Derived.Test.YtghoimllhpjkjaaGreatProg
import Derived.Test.YtghoimllhpjkjaaGreatSortA
import Derived.Test.YtghoimllhpjkjaaGreatS3Clo
set_option linter.unusedVariables false
set_option linter.unusedSimpArgs false
namespace Go.Proofs.YtghoimllhpjkjaaGreat
open Go Go.S3 Go.Proofs Go.Proofs.Cells Go.RowKit Go.Shelf
attribute [local go_sem] Oper.semAt_some
noncomputable section
def bwL (l : List Cell) (k : Nat) : List (Nat × Cell) := (List.range k).map fun j => (l.length - 1 - j, el l (l.length - 1 - j))
theorem Zvo (l : List Cell) (k : Nat) : bwL l (k + 1) = bwL l k ++ [(l.length - 1 - k, el l (l.length - 1 - k))] := by simp [bwL, List.range_succ]
theorem ZG3 (l : List Cell) (k : Nat) : (bwL l k).length = k := by simp [bwL]
theorem Zvp (l : List Cell) (m : Nat) (h : m + 1 ≤ l.length) : bwL l (l.length - m) = bwL l (l.length - (m + 1)) ++ [(m, el l m)] := by
 have e : l.length - m = (l.length - (m + 1)) + 1 := by omega
 have e2 : l.length - 1 - (l.length - (m + 1)) = m := by omega
 rw [e, Zvo, e2]
abbrev Ztb (x : Nat × Cell) : Array Value := #[.int .i64 (x.1 : Int), .agg #[.int .u16 x.2.1, .int .u8 x.2.2]]
set_option maxRecDepth 100000 in
set_option maxHeartbeats 2000000 in
theorem ZDU (F : Fence) (n : Nat) (h8 : F.fn 331) (hro : F.round = none) (hn : 1 ≤ n) (y Bs n₀ b off cap : Nat) (l : List Cell) (hreach : l.length ≤ 1073741824) (hb : b < n₀) (hB : Bs < n₀) (J Jx : List (Nat × Cell) → World → Prop)
  (hY : ∀ pre x W, J pre W → pre.length < l.length → YieldAt F (n - 1) Tryz.prog y (Ztb x) W fun e W' =>
   (e = .returned (.bool true) ∧ J (pre ++ [x]) W' ∧ Below n₀ W W') ∨ (e = .returned (.bool false) ∧ Jx (pre ++ [x]) W'))
  (W : World) (hBs : W.cell? ⟨Bs, 0, none⟩ = some (.slice (some ⟨b, off, none⟩) l.length cap))
  (hc : ∀ j, j < l.length → W.cell? ⟨b, off + j * 2, none⟩ = some (.int .u16 (el l j).1) ∧ W.cell? ⟨b, off + j * 2 + 1, none⟩ = some (.int .u8 (el l j).2)) (h0 : J [] W) :
  CallsIn F n Tryz.prog 331 #[.func (.yield y) #[] #[], .pointer (some ⟨Bs, 0, none⟩)] W fun e W' => (∃ v, e = .returned v) ∧
   ((∃ ys, ys = bwL l l.length ∧ J ys W') ∨ (∃ pre, (∃ k, k ≤ l.length ∧ pre = bwL l k) ∧ Jx pre W')) := by
 refine callsIn_of_wp Tryz.func331 rfl h8 ?_ hro
 simp only [Tryz.ntmps331, List.size_toArray, List.length_cons, List.length_nil, Nat.reduceAdd, Nat.reduceSub, Array.replicate_succ, Array.replicate_zero, List.push_toArray, List.append_toArray, List.nil_append, List.cons_append]
 gi_wp2
 gi_loopw [3] (fun i wr => ∃ m : Nat, m ≤ l.length ∧ i = .int .i64 ((m : Int) - 1) ∧ J (bwL l (l.length - m)) wr ∧ Below n₀ W wr)
  (fun i _ => (intOf i + 1).toNat)
 case atStart => exact ⟨l.length, Nat.le_refl _, rfl, by simpa [bwL] using h0, Below.refl _ _⟩
 case round =>
  obtain ⟨m, hm, rfl, hJs, hnx⟩ := hrel
  have hbx : wr.cell? ⟨Bs, 0, none⟩ = some (.slice (some ⟨b, off, none⟩) l.length cap) := (hnx.cell (p := ⟨Bs, 0, none⟩) hB).trans hBs
  cases m with
  | zero =>
   gi_wp2
   go_end0
   exact ⟨⟨_, rfl⟩, .inl ⟨_, rfl, by simpa using hJs⟩⟩
  | succ m =>
   have e1 : ((m + 1 : Nat) : Int) - 1 = (m : Int) := by omega
   rw [e1]
   have hlt : m < l.length := by omega
   obtain ⟨q1, q2⟩ := hc m hlt
   have hcx1 : wr.cell? ⟨b, off + m * 2, none⟩ = some (.int .u16 (el l m).1) := (hnx.cell (p := ⟨b, off + m * 2, none⟩) hb).trans q1
   have hcx2 : wr.cell? ⟨b, off + m * 2 + 1, none⟩ = some (.int .u8 (el l m).2) := (hnx.cell (p := ⟨b, off + m * 2 + 1, none⟩) hb).trans q2
   obtain ⟨fn, tmps, assign, body, hy, hR⟩ := hY _ (m, el l m) wr hJs (by rw [ZG3]; omega)
   dsimp only [Ztb] at hy
   clear hc hBs q1 q2
   gi_wp2
   refine hR.mono ?_
   rintro e W3 (⟨rfl, hJ3, hk3⟩ | ⟨rfl, hJx3⟩)
   ·gi_wp2
    go_roundw
    case rel => exact ⟨m, by omega, rfl, by rw [Zvp l m hlt]; exact hJ3, hnx.trans hk3⟩
    case measure => simp [intOf]
   ·gi_wp2
    refine bodyPost_ret (results_none rfl _ _ _) rfl ?_
    exact ⟨⟨_, rfl⟩, .inr ⟨_, ⟨l.length - m, by omega, (Zvp l m hlt).symm⟩, hJx3⟩⟩
set_option maxRecDepth 100000 in
set_option maxHeartbeats 1000000 in
theorem Zqw (F : Fence) (n : Nat) (h8 : F.fn 331) (hro : F.round = none) (y Bs cap : Nat) (a : Option Addr) (J : List (Nat × Cell) → World → Prop) (W : World) (hBs : W.cell? ⟨Bs, 0, none⟩ = some (.slice a 0 cap)) (h0 : J [] W) :
  CallsIn F n Tryz.prog 331 #[.func (.yield y) #[] #[], .pointer (some ⟨Bs, 0, none⟩)] W fun e W' => (∃ v, e = .returned v) ∧ J [] W' := by
 refine callsIn_of_wp Tryz.func331 rfl h8 ?_ hro
 simp only [Tryz.ntmps331, List.size_toArray, List.length_cons, List.length_nil, Nat.reduceAdd, Nat.reduceSub, Array.replicate_succ, Array.replicate_zero, List.push_toArray, List.append_toArray, List.nil_append, List.cons_append]
 gi_wp2
 gi_loopw [3] (fun i wr => i = .int .i64 (-1) ∧ J [] wr) (fun _ _ => 0)
 case atStart => exact ⟨rfl, h0⟩
 case round =>
  obtain ⟨rfl, hJs⟩ := hrel
  gi_wp2
  go_end0
  exact ⟨⟨_, rfl⟩, hJs⟩
set_option maxHeartbeats 1000000 in
theorem ZG6 (F : Fence) (n : Nat) (h6 : F.fn 308) (hro : F.round = none) (a : Option Addr) (len cap : Nat) (w : World) :
  CallsIn F n Tryz.prog 308 #[.slice a len cap] w fun e w' => e = .returned (.func (.func 331) #[] #[.pointer (some ⟨w.heap.size, 0, none⟩)]) ∧ w' = w.alloc (.cells #[.slice a len cap] 25) := by
 refine callsIn_of_wp Tryz.func308 rfl h6 ?_ hro
 simp only [Tryz.ntmps308, List.size_toArray, List.length_cons, List.length_nil, Nat.reduceAdd, Nat.reduceSub, Array.replicate_succ, Array.replicate_zero, List.push_toArray, List.append_toArray, List.nil_append, List.cons_append]
 gi_wp2
 go_ret
 exact ⟨rfl, rfl⟩
def Held (n₀ : Nat) (W : World) (sv : Value) (l : List Cell) : Prop :=
 (∃ a cap, sv = .slice a 0 cap ∧ l = []) ∨ ∃ b off cap, sv = .slice (some ⟨b, off, none⟩) l.length cap ∧ b < n₀ ∧
  ∀ j, j < l.length → W.cell? ⟨b, off + j * 2, none⟩ = some (.int .u16 (el l j).1) ∧ W.cell? ⟨b, off + j * 2 + 1, none⟩ = some (.int .u8 (el l j).2)
theorem Held.below {n₀ : Nat} {A B : World} (h : Below n₀ A B) {sv : Value} {l : List Cell} : Held n₀ A sv l → Held n₀ B sv l
 | .inl e => .inl e
 | .inr ⟨b, off, cap, e, hb, hc⟩ => .inr ⟨b, off, cap, e, hb, fun j hj => ⟨(h.cell (p := ⟨b, off + j * 2, none⟩) hb).trans (hc j hj).1, (h.cell (p := ⟨b, off + j * 2 + 1, none⟩) hb).trans (hc j hj).2⟩⟩
theorem Held.mono {n₀ n₁ : Nat} {W : World} {sv : Value} {l : List Cell} (h : Held n₀ W sv l) (hn : n₀ ≤ n₁) : Held n₁ W sv l :=
 h.elim .inl fun ⟨b, off, cap, e, hb, hc⟩ => .inr ⟨b, off, cap, e, by omega, hc⟩
theorem Zxf (F : Fence) (n : Nat) (h8 : F.fn 331) (hro : F.round = none) (hn : 1 ≤ n) (Bs n₀ : Nat) (sv : Value) (l : List Cell) (hreach : l.length ≤ 1073741824) (w : World) (hBs : Bs < n₀) (hn₀ : n₀ ≤ w.heap.size)
  (hc : w.cell? ⟨Bs, 0, none⟩ = some sv) (hI : Held n₀ w sv l) :
  SeqStopsK F n Tryz.prog 331 #[.pointer (some ⟨Bs, 0, none⟩)] Ztb (Below n₀) (fun ys => ys = bwL l l.length)
   (fun pre => ∃ k, k ≤ l.length ∧ pre = bwL l k) l.length w := fun y J Jx W hW _ _ hY h0 => by
 have hc' := (hW.cell (p := ⟨Bs, 0, none⟩) (by show Bs < _; omega)).trans hc
 rcases hI.below (hW.mono hn₀) with ⟨a, cap, rfl, rfl⟩ | ⟨b, off, cap, rfl, hb, hcs⟩
 ·exact (Zqw F n h8 hro y Bs cap a J W hc' h0).mono fun e W' ⟨he, hj⟩ => ⟨he, .inl ⟨_, rfl, hj⟩⟩
 ·exact ZDU F n h8 hro hn y Bs n₀ b off cap l hreach hb hBs J Jx hY W hc' hcs h0
end
end Go.Proofs.YtghoimllhpjkjaaGreat
open Go.IntKind (u8 u16 i64)
set_option linter.unusedVariables false
set_option linter.unusedSimpArgs false
namespace Go.Proofs.YtghoimllhpjkjaaGreat
open Go Go.S3 Go.Proofs Go.Proofs.Cells Go.RowKit Go.Shelf
attribute [local go_sem] Oper.semAt_some
noncomputable section
set_option maxRecDepth 100000 in
set_option maxHeartbeats 2000000 in
theorem ZIv (F : Fence) (n : Nat) (h4 : F.fn 258) (h6 : F.fn 308) (h8 : F.fn 331) (hro : F.round = none) (hn : 3 ≤ n) (a : Option Addr) (len cap : Nat) (l : List Cell) (t : Int) (hreach : l.length ≤ 1073741824)
  (w : World) (hI : Held w.heap.size w (.slice a len cap) l) :
  CallsIn F n Tryz.prog 258 #[.slice a len cap, .int .u16 t] w fun e W' => e = .returned (.int .u8 (getX l t)) ∧ Below w.heap.size w W' := by
 have h1 : 1 ≤ n := by omega
 refine callsIn_of_wp_marks Tryz.func258 rfl h4 ?_ hro
 simp only [Tryz.ntmps258, List.size_toArray, List.length_cons, List.length_nil, Nat.reduceAdd, Nat.reduceSub, Array.replicate_succ, Array.replicate_zero, List.push_toArray, List.append_toArray, List.nil_append, List.cons_append]
 gi_wp2_with (gi_at_call 308; refine (ZG6 F (n - 1) h6 hro _ _ _ _).mono ?_; rintro e w' ⟨rfl, rfl⟩)
 have bT := Boxed.new w 34 (.int .u16 t)
 have bR := Boxed.new (w.alloc (.cells #[.int .u16 t] 34)) 5 (.int .u8 0)
 have bN := Boxed.new ((w.alloc (.cells #[.int .u16 t] 34)).alloc (.cells #[.int .u8 0] 5)) 25 (.slice a len cap)
 rw [World.size_alloc] at bR bN
 rw [World.size_alloc] at bN
 have hB0 : Below w.heap.size w (((w.alloc (.cells #[.int .u16 t] 34)).alloc (.cells #[.int .u8 0] 5)).alloc (.cells #[.slice a len cap] 25)) := (((Below.refl _ w).alloc (Nat.le_refl _) _).alloc (by simp) _).alloc (by simp; omega) _
 refine wpIn_rangeFunc_ownH hro h1 (gf := 331) (lb := #[.pointer (some ⟨w.heap.size + 2, 0, none⟩)]) rfl h8 (enters_of Tryz.func331 (by kernel_rfl) rfl)
  (Zxf F (n - 1) h8 hro (by omega) (w.heap.size + 2) (w.heap.size + 3) _ l hreach _ (by omega) (by simp) bN.cell ?held) belowK_t (belowK_b (by simp)) (Below.refl _ _) (fun _ => rfl)
  (fun pre W => ((∀ p ∈ pre, p.2.1 ≠ t) ∧ W.cell? ⟨w.heap.size, 0, none⟩ = some (.int .u16 t) ∧ W.cell? ⟨w.heap.size + 1, 0, none⟩ = some (.int .u8 0) ∧ W.frozen? ⟨w.heap.size + 1, 0, none⟩ = false ∧ w.heap.size + 3 ≤ W.heap.size) ∧ Below w.heap.size w W)
  (fun c pre W => (c = .ret ∧ ∃ ini last, pre = ini ++ [last] ∧ (∀ p ∈ ini, p.2.1 ≠ t) ∧ last.2.1 = t ∧ W.cell? ⟨w.heap.size + 1, 0, none⟩ = some (.int .u8 last.2.2)) ∧ Below w.heap.size w W)
  (OwnFrom.and (Own.from (fun s A B row hs hg hr => ⟨hs.1, cell_kept hs.2.1 hg hr, cell_kept hs.2.2.1 hg hr, (frozen_kept hs.2.2.1 hg hr).trans hs.2.2.2.1, Nat.le_trans hs.2.2.2.2 hg.size⟩) _) (ownFrom_below (Nat.le_refl _) (by simp; omega)))
  (fun c => OwnFrom.and (Own.from (fun s A B row hs hg hr => by obtain ⟨hc, ini, last, e1, e2, e3, e4⟩ := hs; exact ⟨hc, ini, last, e1, e2, e3, cell_kept e4 hg hr⟩) _) (ownFrom_below (Nat.le_refl _) (by simp; omega)))
  ⟨⟨by simp, ((bT.alloc _).alloc _).cell, (bR.alloc _).cell, (bR.alloc _).frozen, by simp⟩, hB0⟩
  (fun x a' W => ∃ B, W.cell? ⟨B, 0, none⟩ = some (.int .u16 x.2.1) ∧ W.cell? ⟨B, 1, none⟩ = some (.int .u8 x.2.2) ∧
   a' = { tmps := #[.slice a len cap, .int .u16 t, undef, .pointer (some ⟨w.heap.size, 0, none⟩), .pointer (some ⟨w.heap.size + 1, 0, none⟩), undef, .pointer (some ⟨B, 0, none⟩), .slice a len cap, .func (.func 331) #[] #[.pointer (some ⟨w.heap.size + 2, 0, none⟩)], .int .i64 (x.1 : Int), .agg #[.int .u16 x.2.1, .int .u8 x.2.2], undef, undef, undef, undef, undef, undef], defers := [] })
  (fun x a' => Own.from (fun s A B row hs hg hr => by obtain ⟨b, e2, e3, e4⟩ := hs; exact ⟨b, cell_kept e2 hg hr, cell_kept e3 hg hr, e4⟩) _)
  ?assign ?body ?done ?stop
 case held => exact (hI.below hB0).mono (by omega)
 case assign =>
  rintro y pre x W K ⟨⟨hp, hct, hcr, hfr, hsz⟩, hB⟩ hK
  gi_wp2
  have hn1 : ∀ o : Obj, (W.alloc o).heap[W.heap.size]? = some o := fun o => World.alloc_heap_new W o
  refine hK _ _ ((KeepsOthers.alloc W _).from _) ((Below.refl _ W).alloc hsz _) ⟨⟨hp, ?_, ?_, ?_, by simp; omega⟩, hB.alloc (by omega) _⟩ ⟨W.heap.size, ?_, ?_, rfl⟩
  ·exact cell_kept hct (World.grownBy_alloc W _ none) (fun r e => by cases e)
  ·exact cell_kept hcr (World.grownBy_alloc W _ none) (fun r e => by cases e)
  ·exact (frozen_kept hcr (World.grownBy_alloc W _ none) (fun r e => by cases e)).trans hfr
  ·simp only [World.cell?]; rw [hn1]; rfl
  ·simp only [World.cell?]; rw [hn1]; rfl
 case body =>
  rintro y pre x a' W hy hl ⟨⟨hp, hct, hcr, hfr, hsz⟩, hB⟩ ⟨B, hB2, hB3, rfl⟩ _
  gi_wp2
  ·have hx : x.2.1 = t := by simpa using (by assumption : (x.2.1 == t) = true)
   exact ⟨(KeepsOthers.setCell _ _ _).from _, ⟨rfl, pre, x, rfl, hp, hx, World.cell?_setCell_same' _ _ _ (by rw [hcr]; rfl)⟩, hB.setCell (p := ⟨w.heap.size + 1, 0, none⟩) (by simp) _⟩
  ·have hx : x.2.1 ≠ t := by simpa using (by assumption : (x.2.1 == t) = false)
   exact ⟨KeepsFrom.refl _ _, Below.refl _ _, ⟨fun p hp' => (List.mem_append.1 hp').elim (hp p) (fun e => by simp at e; subst e; exact hx), hct, hcr, hfr, hsz⟩, hB⟩
 case done =>
  rintro D ys W hD rfl ⟨⟨hne, hct, hcr, hfr, hsz⟩, hB⟩ hK
  gi_wp2
  have hK' := (KeepsOthers.setCell W ⟨w.heap.size + 1, 0, none⟩ (.int .u8 0)).same D _ hK rfl
  refine ⟨by simp, .inl ⟨_, _, rfl, run_takeDeferred hK', ?_⟩⟩
  have hc5 := cell_kept (World.cell?_setCell_same' W ⟨w.heap.size + 1, 0, none⟩ (.int .u8 0) (by rw [hcr]; rfl)) (grownBy_putObj' _ D (.deferred none)) (fun r e => by cases e; exact ⟨_, hK', rfl⟩)
  have h0 : getX l t = 0 := ZeK fun c hc => by
   obtain ⟨i, hi, rfl⟩ := List.mem_iff_getElem.1 hc
   have e1 := ZbN l i hi
   rw [List.getElem?_eq_getElem hi, oinj] at e1
   rw [e1]
   refine hne (i, el l i) ?_
   simp only [bwL, List.mem_map, List.mem_range]
   exact ⟨l.length - 1 - i, by omega, by rw [show l.length - 1 - (l.length - 1 - i) = i by omega]⟩
  refine ⟨.int .u8 0, ?_, by rw [h0], (hB.setCell (p := ⟨w.heap.size + 1, 0, none⟩) (by simp) _).trans (belowK_b (w := w) (Nat.le_refl _) _ D _ _ (by simp at hD; omega) hK' rfl rfl)⟩
  simp [results, Tryz.f258, go_sem, hc5]
 case stop =>
  rintro D c pre W hD ⟨k, hk, rfl⟩ ⟨⟨rfl, ini, last, e1, e2, e3, hcr⟩, hB⟩ hK
  gi_wp2
  refine ⟨by simp, .inl ⟨_, _, rfl, run_takeDeferred hK, ?_⟩⟩
  have hc5 := cell_kept hcr (grownBy_putObj' _ D (.deferred none)) (fun r e => by cases e; exact ⟨_, hK, rfl⟩)
  obtain ⟨k', rfl⟩ : ∃ k', k = k' + 1 := by
   cases k with
   | zero => simp [bwL] at e1
   | succ k' => exact ⟨k', rfl⟩
  rw [Zvo] at e1
  obtain ⟨rfl, e5⟩ := List.append_inj' e1 rfl
  simp only [List.cons.injEq, and_true] at e5
  subst e5
  have hg : getX l t = (el l (l.length - 1 - k')).2 := Zs2 (i := l.length - 1 - k') (by omega) e3 fun q h1 h2 => by
   refine e2 (q, el l q) ?_
   simp only [bwL, List.mem_map, List.mem_range]
   exact ⟨l.length - 1 - q, by omega, by rw [show l.length - 1 - (l.length - 1 - q) = q by omega]⟩
  refine ⟨.int .u8 (el l (l.length - 1 - k')).2, ?_, by rw [hg], hB.trans (belowK_b (w := w) (Nat.le_refl _) W D _ _ (by simp at hD; omega) hK rfl rfl)⟩
  simp [results, Tryz.f258, go_sem, hc5]
def ZIf : List Sh := [.one (.sl (R.pair (R.int u16) (R.int u8))), .one (.int u16)]
def ZIg : Rs := .one (.one (R.int u8))
def ZIh : Entry := Zm ZIf ZIg (fun a => some (Nat.ble (List.length (α := Cell) a.1) most)) (fun a => getX a.1 a.2)
theorem ZGS (l : List Cell) (h : ∀ c ∈ l, inR .u8 c.2) (t : Int) : inR .u8 (getX l t) := by
 by_cases hx : ∃ c ∈ l, c.1 = t
 ·have hne : flt t l ≠ [] := by
   obtain ⟨c, hc, he⟩ := hx
   intro h0
   have : c ∈ flt t l := by simp [flt, hc, he]
   rw [h0] at this; simp at this
  rw [getX]
  cases hq : (flt t l).getLast? with
  | none => exact absurd (List.getLast?_eq_none_iff.1 hq) hne
  | some c =>
   have := List.mem_of_getLast? hq
   simp only [flt, List.mem_filter] at this
   exact h c this.1
 ·rw [ZeK fun c hc e => hx ⟨c, hc, e⟩]
  exact ⟨by decide, by decide⟩
theorem ZGy : Zc Tryz.prog 258 ZIh := by
 refine ⟨Tryz.call258, fun vs chk v hp hc x m w args hm hv => ?_⟩
 simp only at hp
 split at hp
 ·rename_i a ha
  simp only [oinj, pinj] at hp
  obtain ⟨rfl, rfl⟩ := hp
  obtain ⟨hargs, hin⟩ := Zbm ha hv
  obtain ⟨l, t⟩ := a
  have hle : List.length (α := Cell) l ≤ most := by
   cases hb : Nat.ble (List.length (α := Cell) l) most with
   | true => simpa [Nat.ble_eq] using hb
   | false => rw [hb] at hc; exact absurd rfl hc
  have hmost : most ≤ 1073741824 := by decide
  match args, hargs with
  | [v0, v1], hargs =>
   have hv0 : RA x (.lst (R.pair (R.int u16) (R.int u8)) false false false l) v0 := hargs.1
   have hv1 : RA x (.int false .u16 t) v1 := hargs.2.1
   have hl8 : ∀ c ∈ (l : List Cell), inR .u8 c.2 := fun c hc => ((hin.1 : rcCE.ok l).2 c hc).2
   cases hv1
   obtain ⟨aa, len, cap, rfl, hheld⟩ : ∃ aa len cap, v0 = .slice aa len cap ∧ Held w.heap.size w (.slice aa len cap) l := by
    cases hv0 with
    | lst0 _ _ _ _ _ _ a cap h1 h2 h3 _ => exact ⟨a, 0, cap, rfl, .inl ⟨a, cap, rfl, h1⟩⟩
    | lst _ _ _ _ _ _ p o cap c h0 hf hcap hml hz hr =>
     refine ⟨_, _, cap, rfl, .inr ⟨p, o, cap, rfl, ?_, fun j hj => ?_⟩⟩
     ·have hpos : 0 < List.length (α := Cell) l := List.length_pos_iff.2 h0
      exact hm.fz_lt (hz 0 0 _ hpos rfl)
     ·have q1 := hm.fz _ _ _ (hz j 0 _ hj rfl)
      have q2 := hm.fz _ _ _ (hz j 1 _ hj rfl)
      have r1 := hr j 0 _ hj rfl
      have r2 := hr j 1 _ hj rfl
      generalize c j 0 = c0 at q1 r1
      generalize c j 1 = c1 at q2 r2
      cases r1; cases r2
      exact ⟨q1, q2⟩
   have key := ZIv { fn := fun _ => True } 3 trivial trivial trivial rfl (Nat.le_refl _) aa len cap l t (by omega) w hheld
   refine (key.calls (fun k d hd => by simp at hd)).mono ?_
   rintro e w' ⟨rfl, hb⟩
   have hs : Zcd w w' := ⟨⟨hb.size, fun k hk => hb.block k hk⟩, hb.os, hb.tape, hb.output⟩
   exact ⟨_, x, rfl, .int _ _ _ _ (ZGS l hl8 t), hm.old hs.1, .refl x, hs⟩
  | [], hargs => exact hargs.elim
  | [_], hargs => exact hargs.2.elim
  | _ :: _ :: _ :: _, hargs => exact hargs.2.2.elim
 ·simp at hp
end
end Go.Proofs.YtghoimllhpjkjaaGreat
open Go.IntKind (u8 u16 i64)
set_option linter.unusedSimpArgs false
open Go Go.S3 Go.Proofs
set_option linter.unusedVariables false
set_option maxRecDepth 100000
namespace Go.Proofs.YtghoimllhpjkjaaGreat
noncomputable section
abbrev ZHf : List Sh := [Sh.agg (R.pair (R.int u16) (R.int u8)), Sh.one (R.int u16)]
abbrev ZHg : Rs := Rs.one (Sh.one (R.int i64))
def uAtT (c : Int × Int) (t : Int) : RT (Int) :=
 .leaf (uCmp c.1 t)
def uAt (c : Int × Int) (t : Int) : Int := (uAtT c t).val
def uAtE : Entry := Zm ZHf ZHg (fun _ => none) (fun a => uAt a.1 a.2)
theorem ZxR : Zc Tryz.prog 296 uAtE :=
 pureQ 31 [(186, ZFc)] [] ZHf ZHg ⟨ZxO, trivial⟩ Tryz.func296 Tryz.call296 trivial (t := fun a => uAtT a.1 a.2) (fun a => by kernel_rfl)
abbrev ZxN : List Sh := [Sh.one rcCE, Sh.one (R.int u16)]
abbrev ZqE : Rs := Rs.tup [Sh.one (R.int i64), Sh.one R.bool]
def ZB4 : LS := { n := 49, slots := [(0, .code (Sh.one rcCE)), (1, .code (Sh.one (R.int u16))), (2, .fix (A.clo 296 [])), (8, .code (Sh.one (R.int i64))), (9, .code (Sh.one (R.int i64))), (10, .code (Sh.one (R.int i64)))], boxes := [], stgs := [] }
def Zey (a : List (Int × Int) × Int × Int × Int × Int × PUnit) : RT (Option (Go1 (List (Int × Int) × Int × Int × Int × Int × PUnit))) :=
 let x1 := i64.wrap (shrI IntKind.u64 (IntKind.u64.wrap (i64.wrap (a.2.2.2.1 + a.2.2.2.2.1))) 1)
 let x2 := decide (uAt (R.get (R.pair (R.int u16) (R.int u8)) a.1 x1) a.2.1 < 0)
 .br (decide (a.2.2.2.1 < a.2.2.2.2.1)) (.br (Ze x1 (List.length a.1)) (.leaf (some (Go1.cont (a.1, a.2.1, a.2.2.1, bif x2 then i64.wrap (x1 + 1) else a.2.2.2.1, bif x2 then a.2.2.2.2.1 else x1, PUnit.unit)))) (.leaf none)) (.leaf (some (Go1.brk (a.1, a.2.1, a.2.2.1, a.2.2.2.1, a.2.2.2.2.1, PUnit.unit))))
def Ztq : Ora := ZbH false ZB4 Zey (fun a => (a.2.2.2.2.1 - a.2.2.2.1).toNat + 1)
theorem Zvu : Zbe (envX Tryz.prog [(296, uAtE)] [] 4095 8) (.block 0 (.loop (Zae Tryz.f295.body 0))) Ztq :=
 ZC (ZF (l := [(296, uAtE)]) ⟨ZxR, trivial⟩ [] 4095 8) (Zl (by kernel_rfl)) (fun a => by kernel_rfl)
def ZkF (x : List (Int × Int)) (t : Int) : RT (Option (Int × Bool)) :=
 let x1 : List (Int × Int) × Int × Int × Int × Int × PUnit := (x, t, iN (List.length x), 0, iN (List.length x), ())
 let x2 := runF false Zey (fun a => Int.toNat (a.2.2.2.2.1 - a.2.2.2.1) + 1) x1
 let x3 : List (Int × Int) × Int × Int × Int × Int × PUnit := (getO (false, x1) x2).2
 let x4 := x3.2
 let x5 := x4.2
 let x6 := x5.2.1
 let x7 := decide (x6 < x5.1)
 let x8 := x3.1
 .br (okB x2) (.br (!x7 || Ze x6 (List.length x8)) (.leaf (some ((bif x7 then x6 else x6, x7 && uAt (R.get (R.pair (R.int u16) (R.int u8)) x8 x6) x4.1 == 0)))) (.leaf none)) (.leaf none)
def Zcz (x : List (Int × Int)) (t : Int) : Int × Bool := getO ZqE.dflt (ZkF x t).val
def Ztr (x : List (Int × Int)) (t : Int) : Bool := okB (ZkF x t).val
def ZDZ : Entry := ZyQ 296 ZxN ZqE (fun a => some (Ztr a.1 a.2)) (fun a => Zcz a.1 a.2)
theorem ZB3 : Zc Tryz.prog 295 ZDZ :=
 ZvP (P := Tryz.prog) (n := 4095) (k := 8) (l := [(296, uAtE)]) (ol := [(0, Ztq)]) ⟨ZxR, trivial⟩ Tryz.func295 rfl (by kernel_rfl) Tryz.call295 ⟨Zvu, trivial⟩ (g0 := 296) (ts := ZxN) (rs := ZqE) (t := fun a => ZkF a.1 a.2) (fun a => by kernel_rfl)
abbrev ZEI : List Sh := [Sh.one rcCE, Sh.one (R.int u16), Sh.one (R.int u8)]
abbrev ZAF : Rs := Rs.one (Sh.one rcCE)
def ZwY (m : List (Int × Int)) (t : Int) (v : Int) : RT (Option (List (Int × Int))) :=
 let x1 := !(v == 0 && !(Zcz m t).2) || Nat.ble (List.length m) most
 let x2 := !x1
 let x3 := v == 0 && !(Zcz m t).2 || (!v == 0 || (!Nat.ble (List.length m) most || decide (0 ≤ (Zcz m t).1) && decide ((Zcz m t).1 < iN (List.length m)) && decide (i64.wrap ((Zcz m t).1 + 1) = (Zcz m t).1 + 1)))
 let x4 := !x3
 let x5 := v == 0 && !(Zcz m t).2 || (!v == 0 || Nat.ble (List.length m) most)
 let x6 := !x5
 let x7 := v == 0 && !(Zcz m t).2 || (v == 0 || (!(Zcz m t).2 || Nat.ble (List.length m) most))
 .br (ZnE m) (.br (!!ZjM m || (!Nat.ble (List.length m) most || (!Nat.ble (List.length (m ++ [(t, v)])) most || Zp6 (m ++ [(t, v)])))) (.br (!!ZjM m || (!Nat.ble (List.length m) most || Nat.ble (List.length (m ++ [(t, v)])) most)) (.br (!!ZjM m || Nat.ble (List.length m) most) (.br (!ZjM m) (.leaf (some (ZAI (m ++ [(t, v)])))) (.br (Ztr m t) (.br (x2 || (x4 || (x6 || (!x7 || (v == 0 && !(Zcz m t).2 || (v == 0 || (!(Zcz m t).2 || Ze (Zcz m t).1 (List.length m)))))))) (.br (x2 || (x4 || (x6 || x7))) (.br (x2 || (x4 || x5)) (.br (x2 || x3) (.br (x1) (.br (v == 0 && !(Zcz m t).2) (.leaf (some (m))) (.br (v == 0) (.leaf (some (delX m (Int.toNat (Zcz m t).1)))) (.br (Zcz m t).2 (.leaf (some (setI m (Zcz m t).1 ((R.get (R.pair (R.int u16) (R.int u8)) m (Zcz m t).1).1, v)))) (.br (!Nat.ble (List.length m) most || decide (0 ≤ (Zcz m t).1) && decide ((Zcz m t).1 ≤ iN (List.length m)) && Nat.ble (List.length m + 1) most) (.br (Nat.ble (List.length m) most) (.leaf (some (insX m (Int.toNat (Zcz m t).1) (t, v)))) (.leaf none)) (.leaf none))))) (.leaf none)) (.leaf none)) (.leaf none)) (.leaf none)) (.leaf none)) (.leaf none))) (.leaf none)) (.leaf none)) (.leaf none)) (.leaf none)
def mPut (m : List (Int × Int)) (t : Int) (v : Int) : List (Int × Int) := getO ZAF.dflt (ZwY m t v).val
def ZDk (m : List (Int × Int)) (t : Int) (v : Int) : Bool := okB (ZwY m t v).val
def ZIe : Entry := Zm ZEI ZAF (fun a => some (ZDk a.1 a.2.1 a.2.2)) (fun a => mPut a.1 a.2.1 a.2.2)
theorem ZGw : Zc Tryz.prog 246 ZIe :=
 ZiB (P := Tryz.prog) (n := 35253225784319) (k := 108) (l := [(117, ZAG), (183, Zkp), (294, ZAE), (295, ZDZ), (296, uAtE), (297, delE), (298, insE)]) (ol := []) ⟨ZnH, Zko, ZAC, ZB3, ZxR, ZIz, ZIr, trivial⟩ Tryz.func246 rfl (by kernel_rfl) Tryz.call246 trivial (ts := ZEI) (rs := ZAF) (t := fun a => ZwY a.1 a.2.1 a.2.2) (fun a => by kernel_rfl)
end
end Go.Proofs.YtghoimllhpjkjaaGreat
open Go Go.S3 Go.Proofs Go.Proofs.Cells
set_option linter.unusedVariables false
set_option linter.unusedSimpArgs false
set_option maxRecDepth 100000
namespace Go.Proofs.YtghoimllhpjkjaaGreat
noncomputable section
theorem ZxP (x y : Int) : decide (uCmp x y < 0) = decide (x < y) := by
 simp only [uCmp, ZxQ, RT.val, bne_self_eq_false, cond_false]
 by_cases h : x < y
 ·simp [h]
 ·by_cases h2 : x > y <;> simp [h, h2]
theorem ZFb (x y : Int) : (uCmp x y == 0) = (x == y) := by
 simp only [uCmp, ZxQ, RT.val, bne_self_eq_false, cond_false]
 by_cases h : x < y
 ·have : x ≠ y := by omega
  simp [h, this]
 ·by_cases h2 : x > y
  ·have : x ≠ y := by omega
   simp [h, h2, this]
  ·have : x = y := by omega
   simp [h, h2, this]
theorem ZxS (c : Cell) (t : Int) : uAt c t = uCmp c.1 t := rfl
def At (m : List Cell) (t : Int) (i : Nat) : Prop := i ≤ m.length ∧ (∀ k, k < i → (el m k).1 < t) ∧ ∀ k, i ≤ k → k < m.length → t ≤ (el m k).1
theorem Zxo (m : List Cell) (t : Int) (hv : Vld m) (hm : m.length ≤ most) : Ztr m t = true ∧ ∃ i, At m t i ∧ Zcz m t = ((i : Int), decide (i < m.length) && ((el m i).1 == t)) := by
 have hms := mst
 obtain ⟨r, hr, h1, i, hi, hR⟩ := ZW (fl := false) (t := Zey) (fuel := fun a => Int.toNat (a.2.2.2.2.1 - a.2.2.2.1) + 1)
  (fun a => ∃ lo hi : Nat, lo ≤ hi ∧ hi ≤ m.length ∧ (∀ k, k < lo → (el m k).1 < t) ∧ (∀ k, hi ≤ k → k < m.length → t ≤ (el m k).1) ∧ a = (m, t, (m.length : Int), (lo : Int), (hi : Int), ()))
  (fun a => Int.toNat (a.2.2.2.2.1 - a.2.2.2.1)) (fun r => r.1 = false ∧ ∃ i : Nat, At m t i ∧ r.2 = (m, t, (m.length : Int), (i : Int), (i : Int), ()))
  (by
   rintro a ⟨lo, hi, h1, h2, h3, h4, rfl⟩
   by_cases hlt : lo < hi
   ·left
    have d : decide ((lo : Int) < (hi : Int)) = true := by simpa using hlt
    have hmid := Zj6 lo hi (by omega)
    obtain ⟨M, hM⟩ : ∃ M, M = (lo + hi) / 2 := ⟨_, rfl⟩
    rw [← hM] at hmid
    have r1 := Zam m M (by omega)
    have g := ZbC m M
    have w := Ze5 M (by omega)
    by_cases hc : (el m M).1 < t
    ·have dc : decide (uAt (el m M) t < 0) = true := by rw [ZxS, ZxP]; simpa using hc
     refine ⟨(m, t, (m.length : Int), ((M + 1 : Nat) : Int), (hi : Int), ()), ?_, ⟨M + 1, hi, by omega, h2, fun k hk => ?_, h4, rfl⟩, by simp only; omega⟩
     ·simp only [Zey, RT.val, d, hmid, r1, g, dc, w, cond_true]
     ·by_cases e : k = M
      ·subst e; exact hc
      ·by_cases e2 : k < lo
       ·exact h3 k e2
       ·have := List.pairwise_iff_getElem.1 hv.1 k M (by omega) (by omega) (by omega)
        have e1 := ZbN m k (by omega)
        have e3 := ZbN m M (by omega)
        rw [List.getElem?_eq_getElem (by omega), oinj] at e1 e3
        rw [e1, e3] at this; omega
    ·have dc : decide (uAt (el m M) t < 0) = false := by rw [ZxS, ZxP]; simpa using hc
     refine ⟨(m, t, (m.length : Int), (lo : Int), (M : Int), ()), ?_, ⟨lo, M, by omega, by omega, h3, fun k hk hk2 => ?_, rfl⟩, by simp only; omega⟩
     ·simp only [Zey, RT.val, d, hmid, r1, g, dc, cond_true, cond_false]
     ·by_cases e : k = M
      ·subst e; omega
      ·have := List.pairwise_iff_getElem.1 hv.1 M k (by omega) (by omega) (by omega)
       have e1 := ZbN m k (by omega)
       have e3 := ZbN m M (by omega)
       rw [List.getElem?_eq_getElem (by omega), oinj] at e1 e3
       rw [e1, e3] at this; omega
   ·right; left
    have d : decide ((lo : Int) < (hi : Int)) = false := by simpa using hlt
    have : hi = lo := by omega
    subst this
    exact ⟨_, by simp only [Zey, RT.val, d, cond_false], rfl, hi, ⟨h2, h3, h4⟩, rfl⟩)
  (m, t, iN m.length, 0, iN m.length, ()) ⟨0, m.length, Nat.zero_le _, Nat.le_refl _, fun k h => by omega, fun k h1 h2 => by omega, rfl⟩ (by simp only [iN]; omega)
 obtain ⟨r1, r2⟩ := r
 simp only at h1 hR
 subst h1 hR
 have hd : decide ((i : Int) < (m.length : Int)) = decide (i < m.length) := by simp
 have hv : (ZkF m t).val = some ((i : Int), decide (i < m.length) && ((el m i).1 == t)) := by
  have g := ZbC m i
  by_cases hlt : i < m.length
  ·have r1 := Zam m i hlt
   have hd : decide ((i : Int) < (m.length : Int)) = true := by simpa using hlt
   simp only [ZkF, RT.val, hr, okB, getO, cond_true, hd, r1, Bool.not_true, Bool.false_or, g, ZxS, ZFb, hlt, decide_true, Bool.true_and]
  ·have hd : decide ((i : Int) < (m.length : Int)) = false := by simpa using hlt
   simp only [ZkF, RT.val, hr, okB, getO, cond_true, cond_false, hd, Bool.not_false, Bool.true_or, hlt, decide_false, Bool.false_and]
 exact ⟨by simp only [Ztr, hv]; rfl, i, hi, by simp only [Zcz, hv, getO]⟩
theorem ZyO : ∀ (i : Nat) (m : List Cell) (c : Cell), i ≤ m.length → (∀ k, k < i → (el m k).1 < c.1) → putX m c = m.take i ++ putX (m.drop i) c
 | 0, m, c, _, _ => by simp
 | i + 1, [], c, h, _ => by simp at h
 | i + 1, x :: m, c, h, hk => by
  have h0 : x.1 < c.1 := hk 0 (by omega)
  rw [putX, if_pos h0, ZyO i m c (by simpa using h) (fun k h' => hk (k + 1) (by omega))]
  simp
theorem ZyN (m : List Cell) (t v : Int) (i : Nat) (h : At m t i) :
  (v = 0 → (decide (i < m.length) && ((el m i).1 == t)) = false → putX m (t, v) = m) ∧
  (v = 0 → (decide (i < m.length) && ((el m i).1 == t)) = true → putX m (t, v) = delX m i) ∧
  (v ≠ 0 → (decide (i < m.length) && ((el m i).1 == t)) = true → putX m (t, v) = setI m (i : Int) ((el m i).1, v)) ∧
  (v ≠ 0 → (decide (i < m.length) && ((el m i).1 == t)) = false → putX m (t, v) = insX m i (t, v)) := by
 obtain ⟨h1, h2, h3⟩ := h
 have hp := ZyO i m (t, v) h1 h2
 by_cases hlt : i < m.length
 ·have hd := ZnY m i hlt
  have hge := h3 i (Nat.le_refl _) hlt
  have hn : ¬ (el m i).1 < t := by omega
  rw [hd] at hp
  simp only [putX, if_neg hn] at hp
  simp only [hlt, decide_true, Bool.true_and]
  refine ⟨fun hz he => ?_, fun hz he => ?_, fun hz he => ?_, fun hz he => ?_⟩
  ·have he : (el m i).1 ≠ t := by simpa using he
   rw [hp, if_pos hz, if_neg he, ← hd, List.take_append_drop]
  ·have he : (el m i).1 = t := by simpa using he
   rw [hp, if_pos hz, if_pos he, delX]
  ·have he : (el m i).1 = t := by simpa using he
   rw [hp, if_neg hz, if_pos he, setI, Int.toNat_natCast, he, List.set_eq_take_append_cons_drop, if_pos hlt]
  ·have he : (el m i).1 ≠ t := by simpa using he
   rw [hp, if_neg hz, if_neg he, insX, ← hd]; simp
 ·have he : i = m.length := by omega
  subst he
  simp only [List.drop_length, putX] at hp
  simp only [Nat.lt_irrefl, decide_false, Bool.false_and]
  refine ⟨fun hz _ => ?_, fun hz he => by simp at he, fun hz he => by simp at he, fun hz _ => ?_⟩
  ·rw [hp, if_pos hz]; simp
  ·rw [hp, if_neg hz, insX]; simp
theorem ZDi (m : List Cell) (t v : Int) (hm : m.length + 1 ≤ most) : ZDk m t v = true ∧ mPut m t v = putX (normX m) (t, v) := by
 have hms := mst
 have hv1 := ZAy m (by omega)
 have hb1 : Nat.ble m.length most = true := by rw [Nat.ble_eq]; omega
 have hv : (ZwY m t v).val = some (putX (normX m) (t, v)) := by
  cases hval : vldB m with
  | false =>
   have hl : (m ++ [(t, v)]).length ≤ most := by simp; omega
   have hb2 : Nat.ble (m ++ [(t, v)]).length most = true := by rw [Nat.ble_eq]; exact hl
   obtain ⟨n1, n2⟩ := ZjI (m ++ [(t, v)]) hl
   simp only [ZwY, RT.val, hv1.1, hv1.2, hval, hb1, hb2, n1, n2, ZgH, Bool.not_false, Bool.not_true, Bool.or_true, Bool.or_self, cond_true]
  | true =>
   have hV := Zlt.1 hval
   obtain ⟨f1, i, hi, f2⟩ := Zxo m t hV (by omega)
   obtain ⟨q1, q2, q3, q4⟩ := ZyN m t v i hi
   have hile : decide ((i : Int) ≤ iN m.length) = true := by simpa [iN] using hi.1
   have hi0 : decide ((0 : Int) ≤ (i : Int)) = true := by simp
   have hb3 : Nat.ble (m.length + 1) most = true := by rw [Nat.ble_eq]; omega
   have w := Ze5 i (by have := hi.1; omega)
   have g := ZbC m i
   rw [ZgI hV]
   simp only [ZwY, RT.val, hv1.1, hv1.2, hval, hb1, f1, f2, hile, hi0, hb3, w, g, Bool.not_true, Bool.not_false, Bool.true_or, Bool.or_true, Bool.or_false, Bool.false_or, Bool.and_self, Bool.true_and, cond_true, cond_false, Int.toNat_natCast]
   cases hfd : (decide (i < m.length) && ((el m i).1 == t)) with
   | true =>
    have hlt : i < m.length := by
     rw [Bool.and_eq_true, decide_eq_true_eq] at hfd; exact hfd.1
    have r1 := Zam m i hlt
    have hd : decide ((i : Int) < iN m.length) = true := by simpa [iN] using hlt
    have hw : decide (((i + 1 : Nat) : Int) = (i : Int) + 1) = true := by simp
    by_cases hz : v = 0
    ·have hz1 : (v == 0) = true := by simpa using hz
     simp only [hz1, r1, hd, hw, q2 hz hfd, Bool.not_true, Bool.not_false, Bool.and_false, Bool.and_true, Bool.true_or, Bool.or_true, Bool.or_false, Bool.false_or, Bool.and_self, cond_true, cond_false]
    ·have hz1 : (v == 0) = false := by simpa using hz
     simp only [hz1, r1, hd, hw, q3 hz hfd, Bool.not_true, Bool.not_false, Bool.false_and, Bool.and_false, Bool.and_true, Bool.true_or, Bool.or_true, Bool.or_false, Bool.false_or, Bool.and_self, cond_true, cond_false]
   | false =>
    by_cases hz : v = 0
    ·have hz1 : (v == 0) = true := by simpa using hz
     simp only [hz1, q1 hz hfd, Bool.not_true, Bool.not_false, Bool.and_false, Bool.and_true, Bool.true_or, Bool.or_true, Bool.or_false, Bool.false_or, Bool.and_self, cond_true, cond_false]
    ·have hz1 : (v == 0) = false := by simpa using hz
     simp only [hz1, q4 hz hfd, Bool.not_true, Bool.not_false, Bool.false_and, Bool.and_false, Bool.and_true, Bool.true_or, Bool.or_true, Bool.or_false, Bool.false_or, Bool.and_self, cond_true, cond_false]
 exact ⟨by simp only [ZDk, hv]; rfl, by simp only [mPut, hv, getO]⟩
end
end Go.Proofs.YtghoimllhpjkjaaGreat
open Go.IntKind (u8 u16 i64)
set_option linter.unusedSimpArgs false
open Go Go.S3 Go.Proofs
set_option linter.unusedVariables false
set_option maxRecDepth 100000
namespace Go.Proofs.YtghoimllhpjkjaaGreat
noncomputable section
abbrev Zmv : List Sh := [Sh.one rcRG, Sh.one rcCE, Sh.one (R.int u16)]
abbrev ZhO : Rs := Rs.one (Sh.one (R.int u8))
def ZiN (l : List (QT10)) (m : List (Int × Int)) (t : Int) : RT (Option (Int)) :=
 .br (ZuD l t) (.br (decide (Zse l t < 0)) (.leaf (some (255))) (.br (Nat.ble (List.length m) most) (.leaf (some (Cells.getX m t))) (.leaf none))) (.leaf none)
def Zzj (l : List (QT10)) (m : List (Int × Int)) (t : Int) : Int := getO ZhO.dflt (ZiN l m t).val
def Zrn (l : List (QT10)) (m : List (Int × Int)) (t : Int) : Bool := okB (ZiN l m t).val
def ZFT : Entry := Zm Zmv ZhO (fun a => some (Zrn a.1 a.2.1 a.2.2)) (fun a => Zzj a.1 a.2.1 a.2.2)
theorem Zzi : Zc Tryz.prog 204 ZFT :=
 pureP 127 [(245, ZzR), (258, ZIh)] [] Zmv ZhO ⟨Zuz, ZGy, trivial⟩ Tryz.func204 Tryz.call204 trivial (t := fun a => ZiN a.1 a.2.1 a.2.2) (fun a => by kernel_rfl)
abbrev ZiC : List Sh := [Sh.one rcRG, Sh.one rcCE, Sh.one (R.int u16), Sh.one (R.int u8)]
abbrev ZfQ : Rs := Rs.one (Sh.one rcCE)
def ZfP (l : List (QT10)) (m : List (Int × Int)) (t : Int) (v : Int) : RT (Option (List (Int × Int))) :=
 let x1 := decide (Zse l t ≥ 0) && (R.get (R.pair (R.int u16) (R.pair (R.int u16) (R.pair R.bool (R.int i64)))) l (Zse l t)).2.2.1
 .br (ZuD l t) (.br (!decide (Zse l t ≥ 0) || Ze (Zse l t) (List.length l)) (.br (!x1 || ZDk m t v) (.br (x1) (.leaf (some (mPut m t v))) (.br (Zp6 m) (.leaf (some (ZAI m))) (.leaf none))) (.leaf none)) (.leaf none)) (.leaf none)
def Zrf (l : List (QT10)) (m : List (Int × Int)) (t : Int) (v : Int) : List (Int × Int) := getO ZfQ.dflt (ZfP l m t v).val
def Zmn (l : List (QT10)) (m : List (Int × Int)) (t : Int) (v : Int) : Bool := okB (ZfP l m t v).val
def ZCB : Entry := Zm ZiC ZfQ (fun a => some (Zmn a.1 a.2.1 a.2.2.1 a.2.2.2)) (fun a => Zrf a.1 a.2.1 a.2.2.1 a.2.2.2)
theorem ZvV : Zc Tryz.prog 187 ZCB :=
 pureP 1023 [(117, ZAG), (245, ZzR), (246, ZIe)] [] ZiC ZfQ ⟨ZnH, Zuz, ZGw, trivial⟩ Tryz.func187 Tryz.call187 trivial (t := fun a => ZfP a.1 a.2.1 a.2.2.1 a.2.2.2) (fun a => by kernel_rfl)
end
end Go.Proofs.YtghoimllhpjkjaaGreat
open Go Go.S3 Go.Proofs Go.Proofs.Cells
set_option linter.unusedVariables false
set_option linter.unusedSimpArgs false
set_option maxRecDepth 100000
namespace Go.Proofs.YtghoimllhpjkjaaGreat
noncomputable section
def sm {α : Type} (l : List α) : Bool := Nat.ble (l.length + 1) most
def smC (l : List (Int × Int)) : Bool := sm l
def smB (l : List Int) : Bool := sm l
def smG (l : List Z0) : Bool := sm l
theorem Zig {α : Type} {l : List α} : sm l = true ↔ l.length + 1 ≤ most := by simp [sm]
theorem Zvx {α : Type} {l : List α} (h : sm l = true) : l.length ≤ most := by have := Zig.1 h; omega
theorem ZDE (l : List Z0) (t : Int) : -1 ≤ ZaZ l t ∧ (ZaZ l t < 0 ∨ ∃ i : Nat, i < l.length ∧ ZaZ l t = i) := by
 unfold ZaZ
 split
 ·rename_i h; exact ⟨by omega, .inr ⟨_, h, rfl⟩⟩
 ·exact ⟨by omega, .inl (by omega)⟩
theorem ZBm (l : List Z0) (t : Int) (h : 0 ≤ ZaZ l t) : Ze (ZaZ l t) l.length = true := by
 rcases (ZDE l t).2 with h1 | ⟨i, hi, e⟩
 ·omega
 ·rw [e]; exact Zam l i hi
def ZB (l : List Z0) (m : List Cell) (t v : Int) : List Cell := bif decide (ZaZ l t ≥ 0) && (R.get GR l (ZaZ l t)).2.2.1 then putX (normX m) (t, v) else normX m
theorem ZyV (l : List Z0) (m : List Cell) (t : Int) (hl : l.length ≤ most) (hm : m.length ≤ most) : Zrn l m t = true ∧ Zzj l m t = ZaD l m t := by
 have h1 := Zpr l t hl
 have hb : Nat.ble m.length most = true := by rw [Nat.ble_eq]; exact hm
 have hv : (ZiN l m t).val = some (ZaD l m t) := by
  simp only [ZiN, RT.val, h1.1, h1.2, hb, cond_true, ZaD]
  cases decide (ZaZ l t < 0) <;> rfl
 exact ⟨by simp only [Zrn, hv]; rfl, by simp only [Zzj, hv, getO]⟩
theorem ZvN (l : List Z0) (m : List Cell) (t v : Int) (hl : l.length ≤ most) (hm : m.length + 1 ≤ most) : Zmn l m t v = true ∧ Zrf l m t v = ZB l m t v := by
 have h1 := Zpr l t hl
 have h2 := ZDi m t v hm
 have h3 := ZjI m (by omega)
 have hv : (ZfP l m t v).val = some (ZB l m t v) := by
  have hr : (!decide (ZaZ l t ≥ 0) || Ze (ZaZ l t) l.length) = true := by
   by_cases h : 0 ≤ ZaZ l t
   ·rw [ZBm l t h]; simp
   ·have : decide (ZaZ l t ≥ 0) = false := by simp; omega
    rw [this]; rfl
  simp only [ZfP, RT.val, h1.1, h1.2, h2.1, h2.2, h3.1, h3.2, hr, Bool.or_true, cond_true, ZB]
  cases decide (ZaZ l t ≥ 0) && (R.get GR l (ZaZ l t)).2.2.1 <;> rfl
 exact ⟨by simp only [Zmn, hv]; rfl, by simp only [Zrf, hv, getO]⟩
theorem ZqF {P : Program} {f : FuncId} {ts : List Sh} {rs : Rs} {C : HL ts → Bool} {F G : HL ts → rs.den} (h : Zc P f (Zm ts rs (fun a => some (C a)) F)) {pre : HL ts → Bool} (hp : ∀ a, pre a = true → C a = true ∧ F a = G a) :
  Zc P f (Zm ts rs (fun a => some (pre a)) G) := by
 have key : ∀ a, some (pre a) ≠ some false → pre a = true := fun a h => by cases hq : pre a with
  | true => rfl
  | false => rw [hq] at h; exact absurd rfl h
 exact h.pure_congr (fun a _ hq => by rw [(hp a (key a hq)).1]; simp) (fun a _ hq => (hp a (key a hq)).2)
def ZhJ : Entry := Zm ZlV ZhI (fun a => some (smC a)) (fun a => vldB a)
theorem ZkT : Zc Tryz.prog 44 ZhJ := ZqF Zip fun a h => Zx7 a (Zvx h)
def Zq6 : Entry := Zm Zq5 Zl7 (fun a => some (smC a.1)) (fun a => getX a.1 a.2)
theorem Zpk : Zc Tryz.prog 35 Zq6 := ZqF ZCp fun a h => ZFn a.1 a.2 (Zvx h)
def ZsR : Entry := Zm ZsQ ZnI (fun a => some (smC a)) (fun a => normX a)
theorem ZAH : Zc Tryz.prog 117 ZsR := ZqF ZnH fun a h => ZjI a (Zvx h)
def Zyx : Entry := Zm Zq2 Zl5 (fun a => some (smB a.2)) (fun a => ZbW a.1 a.2)
theorem Zyw : Zc Tryz.prog 32 Zyx := ZqF ZCm fun a h => Zye a.1 a.2 (Zig.1 h)
def Zmw : Entry := Zm Zmv ZhO (fun a => some (smG a.1 && smC a.2.1)) (fun a => ZaD a.1 a.2.1 a.2.2)
theorem ZvZ : Zc Tryz.prog 204 Zmw := ZqF Zzi fun a h => by rw [Bool.and_eq_true] at h; exact ZyV a.1 a.2.1 a.2.2 (Zvx h.1) (Zvx h.2)
def ZiD : Entry := Zm ZiC ZfQ (fun a => some (smG a.1 && smC a.2.1)) (fun a => ZB a.1 a.2.1 a.2.2.1 a.2.2.2)
theorem Zre : Zc Tryz.prog 187 ZiD := ZqF ZvV fun a h => by rw [Bool.and_eq_true] at h; exact ZvN a.1 a.2.1 a.2.2.1 a.2.2.2 (Zvx h.1) (Zig.1 h.2)
end
end Go.Proofs.YtghoimllhpjkjaaGreat
