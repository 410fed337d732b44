/-
  memory.Get: a range over slices.Backward. Conditions: none.
-/
import Derived.Test.YtfejikddclgkcaaMemA
import Derived.RangeFuncNested
import Derived.RangeFuncLeaves
import Derived.Shelf.Abstract
import Derived.WalkKit
import Derived.OwnWalkIn
import Derived.TacticsInMore
import Derived.LoopNIn
import Derived.LoopIn
set_option linter.unusedVariables false
set_option linter.unusedSimpArgs false
namespace Go.Proofs.Ytfejikddclgkcaa
open Go Go.S3 Go.Proofs Go.Proofs.Cells Go.RowKit Go.Shelf
attribute [local go_sem] Oper.semAt_some
noncomputable section
def bwL (l : List Cell) (k : Nat) : List (Nat × Cell) := (List.range k).map fun j => (l.length - 1 - j, el l (l.length - 1 - j))
theorem bwL_succ (l : List Cell) (k : Nat) : bwL l (k + 1) = bwL l k ++ [(l.length - 1 - k, el l (l.length - 1 - k))] := by simp [bwL, List.range_succ]
theorem bwL_len (l : List Cell) (k : Nat) : (bwL l k).length = k := by simp [bwL]
theorem bwL_step (l : List Cell) (m : Nat) (h : m + 1 ≤ l.length) : bwL l (l.length - m) = bwL l (l.length - (m + 1)) ++ [(m, el l m)] := by
  have e : l.length - m = (l.length - (m + 1)) + 1 := by omega
  have e2 : l.length - 1 - (l.length - (m + 1)) = m := by omega
  rw [e, bwL_succ, e2]
abbrev cellEnc (x : Nat × Cell) : Array Value := #[.int .i64 (x.1 : Int), .agg #[.int .u16 x.2.1, .int .u8 x.2.2]]
set_option maxRecDepth 100000 in
set_option maxHeartbeats 2000000 in
/-- The library's iterator, for every loop body that keeps what lay below n₀. -/
theorem back1_in (F : Fence) (n : Nat) (h8 : F.fn 55) (hro : F.round = none) (hn : 1 ≤ n) (y Bs n₀ b off cap : Nat) (l : List Cell) (hreach : l.length ≤ 1073741824) (hb : b < n₀) (hB : Bs < n₀) (J Jx : List (Nat × Cell) → World → Prop)
    (hY : ∀ pre x W, J pre W → pre.length < l.length → YieldAt F (n - 1) Try.prog y (cellEnc x) W fun e W' =>
      (e = .returned (.bool true) ∧ J (pre ++ [x]) W' ∧ Below n₀ W W') ∨ (e = .returned (.bool false) ∧ Jx (pre ++ [x]) W'))
    (W : World) (hBs : W.cell? ⟨Bs, 0, none⟩ = some (.slice (some ⟨b, off, none⟩) l.length cap))
    (hc : ∀ j, j < l.length → W.cell? ⟨b, off + j * 2, none⟩ = some (.int .u16 (el l j).1) ∧ W.cell? ⟨b, off + j * 2 + 1, none⟩ = some (.int .u8 (el l j).2)) (h0 : J [] W) :
    CallsIn F n Try.prog 55 #[.func (.yield y) #[] #[], .pointer (some ⟨Bs, 0, none⟩)] W fun e W' => (∃ v, e = .returned v) ∧
      ((∃ ys, ys = bwL l l.length ∧ J ys W') ∨ (∃ pre, (∃ k, k ≤ l.length ∧ pre = bwL l k) ∧ Jx pre W')) := by
  refine callsIn_of_wp Try.func55 rfl h8 ?_ hro
  simp only [Try.ntmps55, List.size_toArray, List.length_cons, List.length_nil, Nat.reduceAdd, Nat.reduceSub, Array.replicate_succ, Array.replicate_zero, List.push_toArray, List.append_toArray, List.nil_append, List.cons_append]
  gi_wp2
  gi_loopw [3] (fun i wr => ∃ m : Nat, m ≤ l.length ∧ i = .int .i64 ((m : Int) - 1) ∧ J (bwL l (l.length - m)) wr ∧ Below n₀ W wr)
    (fun i _ => (intOf i + 1).toNat)
  case atStart => exact ⟨l.length, Nat.le_refl _, rfl, by simpa [bwL] using h0, Below.refl _ _⟩
  case round =>
    obtain ⟨m, hm, rfl, hJs, hnx⟩ := hrel
    have hbx : wr.cell? ⟨Bs, 0, none⟩ = some (.slice (some ⟨b, off, none⟩) l.length cap) := (hnx.cell (p := ⟨Bs, 0, none⟩) hB).trans hBs
    cases m with
    | zero =>
      gi_wp2
      go_end0
      exact ⟨⟨_, rfl⟩, .inl ⟨_, rfl, by simpa using hJs⟩⟩
    | succ m =>
      have e1 : ((m + 1 : Nat) : Int) - 1 = (m : Int) := by omega
      rw [e1]
      have hlt : m < l.length := by omega
      obtain ⟨q1, q2⟩ := hc m hlt
      have hcx1 : wr.cell? ⟨b, off + m * 2, none⟩ = some (.int .u16 (el l m).1) := (hnx.cell (p := ⟨b, off + m * 2, none⟩) hb).trans q1
      have hcx2 : wr.cell? ⟨b, off + m * 2 + 1, none⟩ = some (.int .u8 (el l m).2) := (hnx.cell (p := ⟨b, off + m * 2 + 1, none⟩) hb).trans q2
      obtain ⟨fn, tmps, assign, body, hy, hR⟩ := hY _ (m, el l m) wr hJs (by rw [bwL_len]; omega)
      dsimp only [cellEnc] at hy
      clear hc hBs q1 q2
      gi_wp2
      refine hR.mono ?_
      rintro e W3 (⟨rfl, hJ3, hk3⟩ | ⟨rfl, hJx3⟩)
      · gi_wp2
        go_roundw
        case rel => exact ⟨m, by omega, rfl, by rw [bwL_step l m hlt]; exact hJ3, hnx.trans hk3⟩
        case measure => simp [intOf]
      · gi_wp2
        refine bodyPost_ret (results_none rfl _ _ _) rfl ?_
        exact ⟨⟨_, rfl⟩, .inr ⟨_, ⟨l.length - m, by omega, (bwL_step l m hlt).symm⟩, hJx3⟩⟩
set_option maxRecDepth 100000 in
set_option maxHeartbeats 1000000 in
/-- No element: no round. -/
theorem back1_nil_in (F : Fence) (n : Nat) (h8 : F.fn 55) (hro : F.round = none) (y Bs cap : Nat) (a : Option Addr) (J : List (Nat × Cell) → World → Prop) (W : World) (hBs : W.cell? ⟨Bs, 0, none⟩ = some (.slice a 0 cap)) (h0 : J [] W) :
    CallsIn F n Try.prog 55 #[.func (.yield y) #[] #[], .pointer (some ⟨Bs, 0, none⟩)] W fun e W' => (∃ v, e = .returned v) ∧ J [] W' := by
  refine callsIn_of_wp Try.func55 rfl h8 ?_ hro
  simp only [Try.ntmps55, List.size_toArray, List.length_cons, List.length_nil, Nat.reduceAdd, Nat.reduceSub, Array.replicate_succ, Array.replicate_zero, List.push_toArray, List.append_toArray, List.nil_append, List.cons_append]
  gi_wp2
  gi_loopw [3] (fun i wr => i = .int .i64 (-1) ∧ J [] wr) (fun _ _ => 0)
  case atStart => exact ⟨rfl, h0⟩
  case round =>
    obtain ⟨rfl, hJs⟩ := hrel
    gi_wp2
    go_end0
    exact ⟨⟨_, rfl⟩, hJs⟩
set_option maxHeartbeats 1000000 in
/-- slices.Backward: the slice value is boxed; the function value captures the box. -/
theorem back_in (F : Fence) (n : Nat) (h6 : F.fn 45) (hro : F.round = none) (a : Option Addr) (len cap : Nat) (w : World) :
    CallsIn F n Try.prog 45 #[.slice a len cap] w fun e w' => e = .returned (.func (.func 55) #[] #[.pointer (some ⟨w.heap.size, 0, none⟩)]) ∧ w' = w.alloc (.cells #[.slice a len cap] 22) := by
  refine callsIn_of_wp Try.func45 rfl h6 ?_ hro
  simp only [Try.ntmps45, List.size_toArray, List.length_cons, List.length_nil, Nat.reduceAdd, Nat.reduceSub, Array.replicate_succ, Array.replicate_zero, List.push_toArray, List.append_toArray, List.nil_append, List.cons_append]
  gi_wp2
  go_ret
  exact ⟨rfl, rfl⟩
/-- The slice value holds the cells l, in a block below n₀. -/
def Held (n₀ : Nat) (W : World) (sv : Value) (l : List Cell) : Prop :=
  (∃ a cap, sv = .slice a 0 cap ∧ l = []) ∨ ∃ b off cap, sv = .slice (some ⟨b, off, none⟩) l.length cap ∧ b < n₀ ∧
    ∀ j, j < l.length → W.cell? ⟨b, off + j * 2, none⟩ = some (.int .u16 (el l j).1) ∧ W.cell? ⟨b, off + j * 2 + 1, none⟩ = some (.int .u8 (el l j).2)
theorem Held.below {n₀ : Nat} {A B : World} (h : Below n₀ A B) {sv : Value} {l : List Cell} : Held n₀ A sv l → Held n₀ B sv l
  | .inl e => .inl e
  | .inr ⟨b, off, cap, e, hb, hc⟩ => .inr ⟨b, off, cap, e, hb, fun j hj => ⟨(h.cell (p := ⟨b, off + j * 2, none⟩) hb).trans (hc j hj).1, (h.cell (p := ⟨b, off + j * 2 + 1, none⟩) hb).trans (hc j hj).2⟩⟩
theorem Held.mono {n₀ n₁ : Nat} {W : World} {sv : Value} {l : List Cell} (h : Held n₀ W sv l) (hn : n₀ ≤ n₁) : Held n₁ W sv l :=
  h.elim .inl fun ⟨b, off, cap, e, hb, hc⟩ => .inr ⟨b, off, cap, e, by omega, hc⟩
theorem back_stops (F : Fence) (n : Nat) (h8 : F.fn 55) (hro : F.round = none) (hn : 1 ≤ n) (Bs n₀ : Nat) (sv : Value) (l : List Cell) (hreach : l.length ≤ 1073741824) (w : World) (hBs : Bs < n₀) (hn₀ : n₀ ≤ w.heap.size)
    (hc : w.cell? ⟨Bs, 0, none⟩ = some sv) (hI : Held n₀ w sv l) :
    SeqStopsK F n Try.prog 55 #[.pointer (some ⟨Bs, 0, none⟩)] cellEnc (Below n₀) (fun ys => ys = bwL l l.length)
      (fun pre => ∃ k, k ≤ l.length ∧ pre = bwL l k) l.length w := fun y J Jx W hW _ _ hY h0 => by
  have hc' := (hW.cell (p := ⟨Bs, 0, none⟩) (by show Bs < _; omega)).trans hc
  rcases hI.below (hW.mono hn₀) with ⟨a, cap, rfl, rfl⟩ | ⟨b, off, cap, rfl, hb, hcs⟩
  · exact (back1_nil_in F n h8 hro y Bs cap a J W hc' h0).mono fun e W' ⟨he, hj⟩ => ⟨he, .inl ⟨_, rfl, hj⟩⟩
  · exact back1_in F n h8 hro hn y Bs n₀ b off cap l hreach hb hBs J Jx hY W hc' hcs h0
end
end Go.Proofs.Ytfejikddclgkcaa
