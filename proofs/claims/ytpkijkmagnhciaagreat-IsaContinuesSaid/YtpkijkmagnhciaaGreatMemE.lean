/-
  Memories and regions: contracts by plain functions, one for the program and the reference. Conditions: none.
-/
import Derived.Test.YtpkijkmagnhciaaGreatMemD
import Derived.RangeFuncNested
import Derived.RangeFuncLeaves
import Derived.Shelf.Abstract
import Derived.WalkKit
import Derived.OwnWalkIn
import Derived.TacticsInMore
import Derived.LoopNIn
import Derived.LoopIn
import Derived.Test.YtpkijkmagnhciaaGreatS3D
import Derived.Test.YtpkijkmagnhciaaGreatProg
import Derived.Test.YtpkijkmagnhciaaGreatMem1
import Derived.Test.YtpkijkmagnhciaaGreatS3Clo
set_option linter.unusedVariables false
set_option linter.unusedSimpArgs false
namespace Go.Proofs.YtpkijkmagnhciaaGreat
open Go Go.S3 Go.Proofs Go.Proofs.Cells Go.RowKit Go.Shelf
attribute [local go_sem] Oper.semAt_some
noncomputable section
def bwL (l : List Cell) (k : Nat) : List (Nat × Cell) := (List.range k).map fun j => (l.length - 1 - j, el l (l.length - 1 - j))
theorem bwL_succ (l : List Cell) (k : Nat) : bwL l (k + 1) = bwL l k ++ [(l.length - 1 - k, el l (l.length - 1 - k))] := by simp [bwL, List.range_succ]
theorem bwL_len (l : List Cell) (k : Nat) : (bwL l k).length = k := by simp [bwL]
theorem bwL_step (l : List Cell) (m : Nat) (h : m + 1 ≤ l.length) : bwL l (l.length - m) = bwL l (l.length - (m + 1)) ++ [(m, el l m)] := by
  have e : l.length - m = (l.length - (m + 1)) + 1 := by omega
  have e2 : l.length - 1 - (l.length - (m + 1)) = m := by omega
  rw [e, bwL_succ, e2]
abbrev cellEnc (x : Nat × Cell) : Array Value := #[.int .i64 (x.1 : Int), .agg #[.int .u16 x.2.1, .int .u8 x.2.2]]
set_option maxRecDepth 100000 in
set_option maxHeartbeats 2000000 in
theorem back1_in (F : Fence) (n : Nat) (h8 : F.fn 296) (hro : F.round = none) (hn : 1 ≤ n) (y Bs n₀ b off cap : Nat) (l : List Cell) (hreach : l.length ≤ 1073741824) (hb : b < n₀) (hB : Bs < n₀) (J Jx : List (Nat × Cell) → World → Prop)
    (hY : ∀ pre x W, J pre W → pre.length < l.length → YieldAt F (n - 1) Tryz.prog y (cellEnc x) W fun e W' =>
      (e = .returned (.bool true) ∧ J (pre ++ [x]) W' ∧ Below n₀ W W') ∨ (e = .returned (.bool false) ∧ Jx (pre ++ [x]) W'))
    (W : World) (hBs : W.cell? ⟨Bs, 0, none⟩ = some (.slice (some ⟨b, off, none⟩) l.length cap))
    (hc : ∀ j, j < l.length → W.cell? ⟨b, off + j * 2, none⟩ = some (.int .u16 (el l j).1) ∧ W.cell? ⟨b, off + j * 2 + 1, none⟩ = some (.int .u8 (el l j).2)) (h0 : J [] W) :
    CallsIn F n Tryz.prog 296 #[.func (.yield y) #[] #[], .pointer (some ⟨Bs, 0, none⟩)] W fun e W' => (∃ v, e = .returned v) ∧
      ((∃ ys, ys = bwL l l.length ∧ J ys W') ∨ (∃ pre, (∃ k, k ≤ l.length ∧ pre = bwL l k) ∧ Jx pre W')) := by
  refine callsIn_of_wp Tryz.func296 rfl h8 ?_ hro
  simp only [Tryz.ntmps296, List.size_toArray, List.length_cons, List.length_nil, Nat.reduceAdd, Nat.reduceSub, Array.replicate_succ, Array.replicate_zero, List.push_toArray, List.append_toArray, List.nil_append, List.cons_append]
  gi_wp2
  gi_loopw [3] (fun i wr => ∃ m : Nat, m ≤ l.length ∧ i = .int .i64 ((m : Int) - 1) ∧ J (bwL l (l.length - m)) wr ∧ Below n₀ W wr)
    (fun i _ => (intOf i + 1).toNat)
  case atStart => exact ⟨l.length, Nat.le_refl _, rfl, by simpa [bwL] using h0, Below.refl _ _⟩
  case round =>
    obtain ⟨m, hm, rfl, hJs, hnx⟩ := hrel
    have hbx : wr.cell? ⟨Bs, 0, none⟩ = some (.slice (some ⟨b, off, none⟩) l.length cap) := (hnx.cell (p := ⟨Bs, 0, none⟩) hB).trans hBs
    cases m with
    | zero =>
      gi_wp2
      go_end0
      exact ⟨⟨_, rfl⟩, .inl ⟨_, rfl, by simpa using hJs⟩⟩
    | succ m =>
      have e1 : ((m + 1 : Nat) : Int) - 1 = (m : Int) := by omega
      rw [e1]
      have hlt : m < l.length := by omega
      obtain ⟨q1, q2⟩ := hc m hlt
      have hcx1 : wr.cell? ⟨b, off + m * 2, none⟩ = some (.int .u16 (el l m).1) := (hnx.cell (p := ⟨b, off + m * 2, none⟩) hb).trans q1
      have hcx2 : wr.cell? ⟨b, off + m * 2 + 1, none⟩ = some (.int .u8 (el l m).2) := (hnx.cell (p := ⟨b, off + m * 2 + 1, none⟩) hb).trans q2
      obtain ⟨fn, tmps, assign, body, hy, hR⟩ := hY _ (m, el l m) wr hJs (by rw [bwL_len]; omega)
      dsimp only [cellEnc] at hy
      clear hc hBs q1 q2
      gi_wp2
      refine hR.mono ?_
      rintro e W3 (⟨rfl, hJ3, hk3⟩ | ⟨rfl, hJx3⟩)
      · gi_wp2
        go_roundw
        case rel => exact ⟨m, by omega, rfl, by rw [bwL_step l m hlt]; exact hJ3, hnx.trans hk3⟩
        case measure => simp [intOf]
      · gi_wp2
        refine bodyPost_ret (results_none rfl _ _ _) rfl ?_
        exact ⟨⟨_, rfl⟩, .inr ⟨_, ⟨l.length - m, by omega, (bwL_step l m hlt).symm⟩, hJx3⟩⟩
set_option maxRecDepth 100000 in
set_option maxHeartbeats 1000000 in
theorem back1_nil_in (F : Fence) (n : Nat) (h8 : F.fn 296) (hro : F.round = none) (y Bs cap : Nat) (a : Option Addr) (J : List (Nat × Cell) → World → Prop) (W : World) (hBs : W.cell? ⟨Bs, 0, none⟩ = some (.slice a 0 cap)) (h0 : J [] W) :
    CallsIn F n Tryz.prog 296 #[.func (.yield y) #[] #[], .pointer (some ⟨Bs, 0, none⟩)] W fun e W' => (∃ v, e = .returned v) ∧ J [] W' := by
  refine callsIn_of_wp Tryz.func296 rfl h8 ?_ hro
  simp only [Tryz.ntmps296, List.size_toArray, List.length_cons, List.length_nil, Nat.reduceAdd, Nat.reduceSub, Array.replicate_succ, Array.replicate_zero, List.push_toArray, List.append_toArray, List.nil_append, List.cons_append]
  gi_wp2
  gi_loopw [3] (fun i wr => i = .int .i64 (-1) ∧ J [] wr) (fun _ _ => 0)
  case atStart => exact ⟨rfl, h0⟩
  case round =>
    obtain ⟨rfl, hJs⟩ := hrel
    gi_wp2
    go_end0
    exact ⟨⟨_, rfl⟩, hJs⟩
set_option maxHeartbeats 1000000 in
theorem back_in (F : Fence) (n : Nat) (h6 : F.fn 270) (hro : F.round = none) (a : Option Addr) (len cap : Nat) (w : World) :
    CallsIn F n Tryz.prog 270 #[.slice a len cap] w fun e w' => e = .returned (.func (.func 296) #[] #[.pointer (some ⟨w.heap.size, 0, none⟩)]) ∧ w' = w.alloc (.cells #[.slice a len cap] 56) := by
  refine callsIn_of_wp Tryz.func270 rfl h6 ?_ hro
  simp only [Tryz.ntmps270, List.size_toArray, List.length_cons, List.length_nil, Nat.reduceAdd, Nat.reduceSub, Array.replicate_succ, Array.replicate_zero, List.push_toArray, List.append_toArray, List.nil_append, List.cons_append]
  gi_wp2
  go_ret
  exact ⟨rfl, rfl⟩
def Held (n₀ : Nat) (W : World) (sv : Value) (l : List Cell) : Prop :=
  (∃ a cap, sv = .slice a 0 cap ∧ l = []) ∨ ∃ b off cap, sv = .slice (some ⟨b, off, none⟩) l.length cap ∧ b < n₀ ∧
    ∀ j, j < l.length → W.cell? ⟨b, off + j * 2, none⟩ = some (.int .u16 (el l j).1) ∧ W.cell? ⟨b, off + j * 2 + 1, none⟩ = some (.int .u8 (el l j).2)
theorem Held.below {n₀ : Nat} {A B : World} (h : Below n₀ A B) {sv : Value} {l : List Cell} : Held n₀ A sv l → Held n₀ B sv l
  | .inl e => .inl e
  | .inr ⟨b, off, cap, e, hb, hc⟩ => .inr ⟨b, off, cap, e, hb, fun j hj => ⟨(h.cell (p := ⟨b, off + j * 2, none⟩) hb).trans (hc j hj).1, (h.cell (p := ⟨b, off + j * 2 + 1, none⟩) hb).trans (hc j hj).2⟩⟩
theorem Held.mono {n₀ n₁ : Nat} {W : World} {sv : Value} {l : List Cell} (h : Held n₀ W sv l) (hn : n₀ ≤ n₁) : Held n₁ W sv l :=
  h.elim .inl fun ⟨b, off, cap, e, hb, hc⟩ => .inr ⟨b, off, cap, e, by omega, hc⟩
theorem back_stops (F : Fence) (n : Nat) (h8 : F.fn 296) (hro : F.round = none) (hn : 1 ≤ n) (Bs n₀ : Nat) (sv : Value) (l : List Cell) (hreach : l.length ≤ 1073741824) (w : World) (hBs : Bs < n₀) (hn₀ : n₀ ≤ w.heap.size)
    (hc : w.cell? ⟨Bs, 0, none⟩ = some sv) (hI : Held n₀ w sv l) :
    SeqStopsK F n Tryz.prog 296 #[.pointer (some ⟨Bs, 0, none⟩)] cellEnc (Below n₀) (fun ys => ys = bwL l l.length)
      (fun pre => ∃ k, k ≤ l.length ∧ pre = bwL l k) l.length w := fun y J Jx W hW _ _ hY h0 => by
  have hc' := (hW.cell (p := ⟨Bs, 0, none⟩) (by show Bs < _; omega)).trans hc
  rcases hI.below (hW.mono hn₀) with ⟨a, cap, rfl, rfl⟩ | ⟨b, off, cap, rfl, hb, hcs⟩
  · exact (back1_nil_in F n h8 hro y Bs cap a J W hc' h0).mono fun e W' ⟨he, hj⟩ => ⟨he, .inl ⟨_, rfl, hj⟩⟩
  · exact back1_in F n h8 hro hn y Bs n₀ b off cap l hreach hb hBs J Jx hY W hc' hcs h0
end
end Go.Proofs.YtpkijkmagnhciaaGreat
set_option linter.unusedVariables false
set_option linter.unusedSimpArgs false
namespace Go.Proofs.YtpkijkmagnhciaaGreat
open Go Go.S3 Go.Proofs Go.Proofs.Cells Go.RowKit Go.Shelf
attribute [local go_sem] Oper.semAt_some
noncomputable section
set_option maxRecDepth 100000 in
set_option maxHeartbeats 2000000 in
theorem get_in (F : Fence) (n : Nat) (h4 : F.fn 224) (h6 : F.fn 270) (h8 : F.fn 296) (hro : F.round = none) (hn : 3 ≤ n) (a : Option Addr) (len cap : Nat) (l : List Cell) (t : Int) (hreach : l.length ≤ 1073741824)
    (w : World) (hI : Held w.heap.size w (.slice a len cap) l) :
    CallsIn F n Tryz.prog 224 #[.slice a len cap, .int .u16 t] w fun e W' => e = .returned (.int .u8 (getX l t)) ∧ Below w.heap.size w W' := by
  have h1 : 1 ≤ n := by omega
  refine callsIn_of_wp_marks Tryz.func224 rfl h4 ?_ hro
  simp only [Tryz.ntmps224, List.size_toArray, List.length_cons, List.length_nil, Nat.reduceAdd, Nat.reduceSub, Array.replicate_succ, Array.replicate_zero, List.push_toArray, List.append_toArray, List.nil_append, List.cons_append]
  gi_wp2_with (gi_at_call 270; refine (back_in F (n - 1) h6 hro _ _ _ _).mono ?_; rintro e w' ⟨rfl, rfl⟩)
  have bT := Boxed.new w 24 (.int .u16 t)
  have bR := Boxed.new (w.alloc (.cells #[.int .u16 t] 24)) 5 (.int .u8 0)
  have bN := Boxed.new ((w.alloc (.cells #[.int .u16 t] 24)).alloc (.cells #[.int .u8 0] 5)) 56 (.slice a len cap)
  rw [World.size_alloc] at bR bN
  rw [World.size_alloc] at bN
  have hB0 : Below w.heap.size w (((w.alloc (.cells #[.int .u16 t] 24)).alloc (.cells #[.int .u8 0] 5)).alloc (.cells #[.slice a len cap] 56)) := (((Below.refl _ w).alloc (Nat.le_refl _) _).alloc (by simp) _).alloc (by simp; omega) _
  refine wpIn_rangeFunc_ownH hro h1 (gf := 296) (lb := #[.pointer (some ⟨w.heap.size + 2, 0, none⟩)]) rfl h8 (enters_of Tryz.func296 (by kernel_rfl) rfl)
    (back_stops F (n - 1) h8 hro (by omega) (w.heap.size + 2) (w.heap.size + 3) _ l hreach _ (by omega) (by simp) bN.cell ?held) belowK_t (belowK_b (by simp)) (Below.refl _ _) (fun _ => rfl)
    (fun pre W => ((∀ p ∈ pre, p.2.1 ≠ t) ∧ W.cell? ⟨w.heap.size, 0, none⟩ = some (.int .u16 t) ∧ W.cell? ⟨w.heap.size + 1, 0, none⟩ = some (.int .u8 0) ∧ W.frozen? ⟨w.heap.size + 1, 0, none⟩ = false ∧ w.heap.size + 3 ≤ W.heap.size) ∧ Below w.heap.size w W)
    (fun c pre W => (c = .ret ∧ ∃ ini last, pre = ini ++ [last] ∧ (∀ p ∈ ini, p.2.1 ≠ t) ∧ last.2.1 = t ∧ W.cell? ⟨w.heap.size + 1, 0, none⟩ = some (.int .u8 last.2.2)) ∧ Below w.heap.size w W)
    (OwnFrom.and (Own.from (fun s A B row hs hg hr => ⟨hs.1, cell_kept hs.2.1 hg hr, cell_kept hs.2.2.1 hg hr, (frozen_kept hs.2.2.1 hg hr).trans hs.2.2.2.1, Nat.le_trans hs.2.2.2.2 hg.size⟩) _) (ownFrom_below (Nat.le_refl _) (by simp; omega)))
    (fun c => OwnFrom.and (Own.from (fun s A B row hs hg hr => by obtain ⟨hc, ini, last, e1, e2, e3, e4⟩ := hs; exact ⟨hc, ini, last, e1, e2, e3, cell_kept e4 hg hr⟩) _) (ownFrom_below (Nat.le_refl _) (by simp; omega)))
    ⟨⟨by simp, ((bT.alloc _).alloc _).cell, (bR.alloc _).cell, (bR.alloc _).frozen, by simp⟩, hB0⟩
    (fun x a' W => ∃ B, W.cell? ⟨B, 0, none⟩ = some (.int .u16 x.2.1) ∧ W.cell? ⟨B, 1, none⟩ = some (.int .u8 x.2.2) ∧
      a' = { tmps := #[.slice a len cap, .int .u16 t, undef, .pointer (some ⟨w.heap.size, 0, none⟩), .pointer (some ⟨w.heap.size + 1, 0, none⟩), undef, .pointer (some ⟨B, 0, none⟩), .slice a len cap, .func (.func 296) #[] #[.pointer (some ⟨w.heap.size + 2, 0, none⟩)], .int .i64 (x.1 : Int), .agg #[.int .u16 x.2.1, .int .u8 x.2.2], undef, undef, undef, undef, undef, undef], defers := [] })
    (fun x a' => Own.from (fun s A B row hs hg hr => by obtain ⟨b, e2, e3, e4⟩ := hs; exact ⟨b, cell_kept e2 hg hr, cell_kept e3 hg hr, e4⟩) _)
    ?assign ?body ?done ?stop
  case held => exact (hI.below hB0).mono (by omega)
  case assign =>
    rintro y pre x W K ⟨⟨hp, hct, hcr, hfr, hsz⟩, hB⟩ hK
    gi_wp2
    have hn1 : ∀ o : Obj, (W.alloc o).heap[W.heap.size]? = some o := fun o => World.alloc_heap_new W o
    refine hK _ _ ((KeepsOthers.alloc W _).from _) ((Below.refl _ W).alloc hsz _) ⟨⟨hp, ?_, ?_, ?_, by simp; omega⟩, hB.alloc (by omega) _⟩ ⟨W.heap.size, ?_, ?_, rfl⟩
    · exact cell_kept hct (World.grownBy_alloc W _ none) (fun r e => by cases e)
    · exact cell_kept hcr (World.grownBy_alloc W _ none) (fun r e => by cases e)
    · exact (frozen_kept hcr (World.grownBy_alloc W _ none) (fun r e => by cases e)).trans hfr
    · simp only [World.cell?]; rw [hn1]; rfl
    · simp only [World.cell?]; rw [hn1]; rfl
  case body =>
    rintro y pre x a' W hy hl ⟨⟨hp, hct, hcr, hfr, hsz⟩, hB⟩ ⟨B, hB2, hB3, rfl⟩ _
    gi_wp2
    · have hx : x.2.1 = t := by simpa using (by assumption : (x.2.1 == t) = true)
      exact ⟨(KeepsOthers.setCell _ _ _).from _, ⟨rfl, pre, x, rfl, hp, hx, World.cell?_setCell_same' _ _ _ (by rw [hcr]; rfl)⟩, hB.setCell (p := ⟨w.heap.size + 1, 0, none⟩) (by simp) _⟩
    · have hx : x.2.1 ≠ t := by simpa using (by assumption : (x.2.1 == t) = false)
      exact ⟨KeepsFrom.refl _ _, Below.refl _ _, ⟨fun p hp' => (List.mem_append.1 hp').elim (hp p) (fun e => by simp at e; subst e; exact hx), hct, hcr, hfr, hsz⟩, hB⟩
  case done =>
    rintro D ys W hD rfl ⟨⟨hne, hct, hcr, hfr, hsz⟩, hB⟩ hK
    gi_wp2
    have hK' := (KeepsOthers.setCell W ⟨w.heap.size + 1, 0, none⟩ (.int .u8 0)).same D _ hK rfl
    refine ⟨by simp, .inl ⟨_, _, rfl, run_takeDeferred hK', ?_⟩⟩
    have hc5 := cell_kept (World.cell?_setCell_same' W ⟨w.heap.size + 1, 0, none⟩ (.int .u8 0) (by rw [hcr]; rfl)) (grownBy_putObj' _ D (.deferred none)) (fun r e => by cases e; exact ⟨_, hK', rfl⟩)
    have h0 : getX l t = 0 := getX_out fun c hc => by
      obtain ⟨i, hi, rfl⟩ := List.mem_iff_getElem.1 hc
      have e1 := el_get l i hi
      rw [List.getElem?_eq_getElem hi, Option.some.injEq] at e1
      rw [e1]
      refine hne (i, el l i) ?_
      simp only [bwL, List.mem_map, List.mem_range]
      exact ⟨l.length - 1 - i, by omega, by rw [show l.length - 1 - (l.length - 1 - i) = i by omega]⟩
    refine ⟨.int .u8 0, ?_, by rw [h0], (hB.setCell (p := ⟨w.heap.size + 1, 0, none⟩) (by simp) _).trans (belowK_b (w := w) (Nat.le_refl _) _ D _ _ (by simp at hD; omega) hK' rfl rfl)⟩
    simp [results, Tryz.f224, go_sem, hc5]
  case stop =>
    rintro D c pre W hD ⟨k, hk, rfl⟩ ⟨⟨rfl, ini, last, e1, e2, e3, hcr⟩, hB⟩ hK
    gi_wp2
    refine ⟨by simp, .inl ⟨_, _, rfl, run_takeDeferred hK, ?_⟩⟩
    have hc5 := cell_kept hcr (grownBy_putObj' _ D (.deferred none)) (fun r e => by cases e; exact ⟨_, hK, rfl⟩)
    obtain ⟨k', rfl⟩ : ∃ k', k = k' + 1 := by
      cases k with
      | zero => simp [bwL] at e1
      | succ k' => exact ⟨k', rfl⟩
    rw [bwL_succ] at e1
    obtain ⟨rfl, e5⟩ := List.append_inj' e1 rfl
    simp only [List.cons.injEq, and_true] at e5
    subst e5
    have hg : getX l t = (el l (l.length - 1 - k')).2 := getX_at (i := l.length - 1 - k') (by omega) e3 fun q h1 h2 => by
      refine e2 (q, el l q) ?_
      simp only [bwL, List.mem_map, List.mem_range]
      exact ⟨l.length - 1 - q, by omega, by rw [show l.length - 1 - (l.length - 1 - q) = q by omega]⟩
    refine ⟨.int .u8 (el l (l.length - 1 - k')).2, ?_, by rw [hg], hB.trans (belowK_b (w := w) (Nat.le_refl _) W D _ _ (by simp at hD; omega) hK rfl rfl)⟩
    simp [results, Tryz.f224, go_sem, hc5]
def mGetTs : List Sh := [.one (.sl (R.pair (R.int IntKind.u16) (R.int IntKind.u8))), .one (.int IntKind.u16)]
def mGetRs : Rs := .one (.one (R.int IntKind.u8))
def mGetE : Entry := pureE mGetTs mGetRs (fun a => some (Nat.ble (List.length (α := Cell) a.1) most)) (fun a => getX a.1 a.2)
theorem getX_in (l : List Cell) (h : ∀ c ∈ l, inR .u8 c.2) (t : Int) : inR .u8 (getX l t) := by
  by_cases hx : ∃ c ∈ l, c.1 = t
  · have hne : flt t l ≠ [] := by
      obtain ⟨c, hc, he⟩ := hx
      intro h0
      have : c ∈ flt t l := by simp [flt, hc, he]
      rw [h0] at this; simp at this
    rw [getX]
    cases hq : (flt t l).getLast? with
    | none => exact absurd (List.getLast?_eq_none_iff.1 hq) hne
    | some c =>
      have := List.mem_of_getLast? hq
      simp only [flt, List.mem_filter] at this
      exact h c this.1
  · rw [getX_out fun c hc e => hx ⟨c, hc, e⟩]
    exact ⟨by decide, by decide⟩
theorem mGet_ok : EntryOk Tryz.prog 224 mGetE := by
  refine ⟨Tryz.call224, fun vs chk v hp hc x m w args hm hv => ?_⟩
  simp only at hp
  split at hp
  · rename_i a ha
    simp only [Option.some.injEq, Prod.mk.injEq] at hp
    obtain ⟨rfl, rfl⟩ := hp
    obtain ⟨hargs, hin⟩ := decVs_ok ha hv
    obtain ⟨l, t⟩ := a
    have hle : List.length (α := Cell) l ≤ most := by
      cases hb : Nat.ble (List.length (α := Cell) l) most with
      | true => simpa [Nat.ble_eq] using hb
      | false => rw [hb] at hc; exact absurd rfl hc
    have hmost : most ≤ 1073741824 := by decide
    match args, hargs with
    | [v0, v1], hargs =>
      have hv0 : RA x (.lst (R.pair (R.int IntKind.u16) (R.int IntKind.u8)) false false false l) v0 := hargs.1
      have hv1 : RA x (.int false .u16 t) v1 := hargs.2.1
      have hl8 : ∀ c ∈ (l : List Cell), inR .u8 c.2 := fun c hc => ((hin.1 : rcCE.ok l).2 c hc).2
      cases hv1
      obtain ⟨aa, len, cap, rfl, hheld⟩ : ∃ aa len cap, v0 = .slice aa len cap ∧ Held w.heap.size w (.slice aa len cap) l := by
        cases hv0 with
        | lst0 _ _ _ _ _ _ a cap h1 h2 h3 _ => exact ⟨a, 0, cap, rfl, .inl ⟨a, cap, rfl, h1⟩⟩
        | lst _ _ _ _ _ _ p o cap c h0 hf hcap hml hz hr =>
          refine ⟨_, _, cap, rfl, .inr ⟨p, o, cap, rfl, ?_, fun j hj => ?_⟩⟩
          · have hpos : 0 < List.length (α := Cell) l := List.length_pos_iff.2 h0
            exact hm.fz_lt (hz 0 0 _ hpos rfl)
          · have q1 := hm.fz _ _ _ (hz j 0 _ hj rfl)
            have q2 := hm.fz _ _ _ (hz j 1 _ hj rfl)
            have r1 := hr j 0 _ hj rfl
            have r2 := hr j 1 _ hj rfl
            generalize c j 0 = c0 at q1 r1
            generalize c j 1 = c1 at q2 r2
            cases r1; cases r2
            exact ⟨q1, q2⟩
      have key := get_in { fn := fun _ => True } 3 trivial trivial trivial rfl (Nat.le_refl _) aa len cap l t (by omega) w hheld
      refine (key.calls (fun k d hd => by simp at hd)).mono ?_
      rintro e w' ⟨rfl, hb⟩
      have hs : SameC w w' := ⟨⟨hb.size, fun k hk => hb.block k hk⟩, hb.os, hb.tape, hb.output⟩
      exact ⟨_, x, rfl, .int _ _ _ _ (getX_in l hl8 t), hm.old hs.1, .refl x, hs⟩
    | [], hargs => exact hargs.elim
    | [_], hargs => exact hargs.2.elim
    | _ :: _ :: _ :: _, hargs => exact hargs.2.2.elim
  · simp at hp
end
end Go.Proofs.YtpkijkmagnhciaaGreat
set_option linter.unusedSimpArgs false
open Go Go.S3 Go.Proofs
set_option linter.unusedVariables false
set_option maxRecDepth 100000
namespace Go.Proofs.YtpkijkmagnhciaaGreat
noncomputable section
abbrev uAtTs : List Sh := [Sh.agg (R.pair (R.int IntKind.u16) (R.int IntKind.u8)), Sh.one (R.int IntKind.u16)]
abbrev uAtRs : Rs := Rs.one (Sh.one (R.int IntKind.i64))
def uAtT (c : Int × Int) (t : Int) : RT (Int) :=
  .leaf (uCmp c.1 t)
def uAt (c : Int × Int) (t : Int) : Int := (uAtT c t).val
def uAtE : Entry := pureE uAtTs uAtRs (fun _ => none) (fun a => uAt a.1 a.2)
theorem uAt_ok : EntryOk Tryz.prog 273 uAtE :=
  pure_tot (P := Tryz.prog) (n := 31) (k := 8) (l := [(167, uCmpE)]) (ol := []) ⟨uCmp_ok, trivial⟩ Tryz.func273 rfl (by kernel_rfl) Tryz.call273 trivial (ts := uAtTs) (rs := uAtRs) (t := fun a => uAtT a.1 a.2) (fun a => by kernel_rfl)
abbrev uFindTs : List Sh := [Sh.one rcCE, Sh.one (R.int IntKind.u16)]
abbrev uFindRs : Rs := Rs.tup [Sh.one (R.int IntKind.i64), Sh.one R.bool]
def uFindL0c : LS := { n := 49, slots := [(0, .code (Sh.one rcCE)), (1, .code (Sh.one (R.int IntKind.u16))), (2, .fix (A.clo 273 [])), (8, .code (Sh.one (R.int IntKind.i64))), (9, .code (Sh.one (R.int IntKind.i64))), (10, .code (Sh.one (R.int IntKind.i64)))], boxes := [], stgs := [] }
def uFindL0T (a : List (Int × Int) × Int × Int × Int × Int × PUnit) : RT (Option (Go1 (List (Int × Int) × Int × Int × Int × Int × PUnit))) :=
  let x1 : Int := IntKind.i64.wrap (shrI IntKind.u64 (IntKind.u64.wrap (IntKind.i64.wrap (a.2.2.2.1 + a.2.2.2.2.1))) 1)
  let x2 : Bool := decide (uAt (R.get (R.pair (R.int IntKind.u16) (R.int IntKind.u8)) a.1 x1) a.2.1 < 0)
  .br (decide (a.2.2.2.1 < a.2.2.2.2.1))
  (.br (inRng x1 (List.length a.1))
   (.leaf (some (Go1.cont (a.1, a.2.1, a.2.2.1, bif x2 then IntKind.i64.wrap (x1 + 1) else a.2.2.2.1, bif x2 then a.2.2.2.2.1 else x1, PUnit.unit))))
   (.leaf none))
  (.leaf (some (Go1.brk (a.1, a.2.1, a.2.2.1, a.2.2.2.1, a.2.2.2.2.1, PUnit.unit))))
def uFindL0O : Ora := loopE false uFindL0c uFindL0T (fun a => (a.2.2.2.2.1 - a.2.2.2.1).toNat + 1)
theorem uFindL0_ok : OraOk (envX Tryz.prog [(273, uAtE)] [] 4095 8) (.block 0 (.loop (bodyIn Tryz.f272.body 0))) uFindL0O :=
  loop_part (envX_ok (l := [(273, uAtE)]) ⟨uAt_ok, trivial⟩ [] 4095 8) (loopsOk_bare (by kernel_rfl)) (fun a => by kernel_rfl)
def uFindT (x : List (Int × Int)) (t : Int) : RT (Option (Int × Bool)) :=
  let x1 : List (Int × Int) × Int × Int × Int × Int × PUnit := (x, t, iN (List.length x), 0, iN (List.length x), ())
  let x2 : Option (Bool × List (Int × Int) × Int × Int × Int × Int × PUnit) := runF false uFindL0T (fun a => Int.toNat (a.2.2.2.2.1 - a.2.2.2.1) + 1) x1
  let x3 : List (Int × Int) × Int × Int × Int × Int × PUnit := (getO (false, x1) x2).2
  let x4 : Int × Int × Int × Int × PUnit := x3.2
  let x5 : Int × Int × Int × PUnit := x4.2
  let x6 : Int := x5.2.1
  let x7 : Bool := decide (x6 < x5.1)
  let x8 : List (Int × Int) := x3.1
  .br (okB x2)
  (.br (!x7 || inRng x6 (List.length x8))
   (.leaf (some ((bif x7 then x6 else x6, x7 && uAt (R.get (R.pair (R.int IntKind.u16) (R.int IntKind.u8)) x8 x6) x4.1 == 0))))
   (.leaf none))
  (.leaf none)
def uFind (x : List (Int × Int)) (t : Int) : Int × Bool := getO uFindRs.dflt (uFindT x t).val
def uFindC (x : List (Int × Int)) (t : Int) : Bool := okB (uFindT x t).val
def uFindE : Entry := pureFE 273 uFindTs uFindRs (fun a => some (uFindC a.1 a.2)) (fun a => uFind a.1 a.2)
theorem uFind_ok : EntryOk Tryz.prog 272 uFindE :=
  purec_part (P := Tryz.prog) (n := 4095) (k := 8) (l := [(273, uAtE)]) (ol := [(0, uFindL0O)]) ⟨uAt_ok, trivial⟩ Tryz.func272 rfl (by kernel_rfl) Tryz.call272 ⟨uFindL0_ok, trivial⟩ (g0 := 273) (ts := uFindTs) (rs := uFindRs) (t := fun a => uFindT a.1 a.2) (fun a => by kernel_rfl)
abbrev mPutTs : List Sh := [Sh.one rcCE, Sh.one (R.int IntKind.u16), Sh.one (R.int IntKind.u8)]
abbrev mPutRs : Rs := Rs.one (Sh.one rcCE)
def mPutT (m : List (Int × Int)) (t : Int) (v : Int) : RT (Option (List (Int × Int))) :=
  let x1 : Bool := !(v == 0 && !(uFind m t).2) || Nat.ble (List.length m) most
  let x2 : Bool := !x1
  let x3 : Bool := v == 0 && !(uFind m t).2 || (!v == 0 || (!Nat.ble (List.length m) most || decide (0 ≤ (uFind m t).1) && decide ((uFind m t).1 < iN (List.length m)) && decide (IntKind.i64.wrap ((uFind m t).1 + 1) = (uFind m t).1 + 1)))
  let x4 : Bool := !x3
  let x5 : Bool := v == 0 && !(uFind m t).2 || (!v == 0 || Nat.ble (List.length m) most)
  let x6 : Bool := !x5
  let x7 : Bool := v == 0 && !(uFind m t).2 || (v == 0 || (!(uFind m t).2 || Nat.ble (List.length m) most))
  .br (mValidC m)
  (.br (!!mValid m || (!Nat.ble (List.length m) most || (!Nat.ble (List.length (m ++ [(t, v)])) most || mNormC (m ++ [(t, v)]))))
   (.br (!!mValid m || (!Nat.ble (List.length m) most || Nat.ble (List.length (m ++ [(t, v)])) most))
    (.br (!!mValid m || Nat.ble (List.length m) most)
     (.br (!mValid m)
      (.leaf (some (mNorm (m ++ [(t, v)]))))
      (.br (uFindC m t)
       (.br (x2 || (x4 || (x6 || (!x7 || (v == 0 && !(uFind m t).2 || (v == 0 || (!(uFind m t).2 || inRng (uFind m t).1 (List.length m))))))))
        (.br (x2 || (x4 || (x6 || x7)))
         (.br (x2 || (x4 || x5))
          (.br (x2 || x3)
           (.br (x1)
            (.br (v == 0 && !(uFind m t).2)
             (.leaf (some (m)))
             (.br (v == 0)
              (.leaf (some (delX m (Int.toNat (uFind m t).1))))
              (.br (uFind m t).2
               (.leaf (some (setI m (uFind m t).1 ((R.get (R.pair (R.int IntKind.u16) (R.int IntKind.u8)) m (uFind m t).1).1, v))))
               (.br (!Nat.ble (List.length m) most || decide (0 ≤ (uFind m t).1) && decide ((uFind m t).1 ≤ iN (List.length m)) && Nat.ble (List.length m + 1) most)
                (.br (Nat.ble (List.length m) most)
                 (.leaf (some (insX m (Int.toNat (uFind m t).1) (t, v))))
                 (.leaf none))
                (.leaf none)))))
            (.leaf none))
           (.leaf none))
          (.leaf none))
         (.leaf none))
        (.leaf none))
       (.leaf none)))
     (.leaf none))
    (.leaf none))
   (.leaf none))
  (.leaf none)
def mPut (m : List (Int × Int)) (t : Int) (v : Int) : List (Int × Int) := getO mPutRs.dflt (mPutT m t v).val
def mPutC (m : List (Int × Int)) (t : Int) (v : Int) : Bool := okB (mPutT m t v).val
def mPutE : Entry := pureE mPutTs mPutRs (fun a => some (mPutC a.1 a.2.1 a.2.2)) (fun a => mPut a.1 a.2.1 a.2.2)
theorem mPut_ok : EntryOk Tryz.prog 225 mPutE :=
  pure_part (P := Tryz.prog) (n := 35253225784319) (k := 108) (l := [(114, mNormE), (164, cloneCE), (271, mValidE), (272, uFindE), (273, uAtE), (274, delE), (275, insE)]) (ol := []) ⟨mNorm_ok, cloneC_ok, mValid_ok, uFind_ok, uAt_ok, del_ok, ins_ok, trivial⟩ Tryz.func225 rfl (by kernel_rfl) Tryz.call225 trivial (ts := mPutTs) (rs := mPutRs) (t := fun a => mPutT a.1 a.2.1 a.2.2) (fun a => by kernel_rfl)
end
end Go.Proofs.YtpkijkmagnhciaaGreat
open Go Go.S3 Go.Proofs Go.Proofs.Cells
set_option linter.unusedVariables false
set_option linter.unusedSimpArgs false
set_option maxRecDepth 100000
namespace Go.Proofs.YtpkijkmagnhciaaGreat
noncomputable section
theorem uCmp_lt (x y : Int) : decide (uCmp x y < 0) = decide (x < y) := by
  simp only [uCmp, uCmpT, RT.val, bne_self_eq_false, cond_false]
  by_cases h : x < y
  · simp [h]
  · by_cases h2 : x > y <;> simp [h, h2]
theorem uCmp_eq (x y : Int) : (uCmp x y == 0) = (x == y) := by
  simp only [uCmp, uCmpT, RT.val, bne_self_eq_false, cond_false]
  by_cases h : x < y
  · have : x ≠ y := by omega
    simp [h, this]
  · by_cases h2 : x > y
    · have : x ≠ y := by omega
      simp [h, h2, this]
    · have : x = y := by omega
      simp [h, h2, this]
theorem uAt_eq (c : Cell) (t : Int) : uAt c t = uCmp c.1 t := rfl
def At (m : List Cell) (t : Int) (i : Nat) : Prop := i ≤ m.length ∧ (∀ k, k < i → (el m k).1 < t) ∧ ∀ k, i ≤ k → k < m.length → t ≤ (el m k).1
theorem ufind_run (m : List Cell) (t : Int) (hv : Vld m) (hm : m.length ≤ most) : uFindC m t = true ∧ ∃ i, At m t i ∧ uFind m t = ((i : Int), decide (i < m.length) && ((el m i).1 == t)) := by
  have hms := mst
  obtain ⟨r, hr, h1, i, hi, hR⟩ := runF_ind (fl := false) (t := uFindL0T) (fuel := fun a => Int.toNat (a.2.2.2.2.1 - a.2.2.2.1) + 1)
    (fun a => ∃ lo hi : Nat, lo ≤ hi ∧ hi ≤ m.length ∧ (∀ k, k < lo → (el m k).1 < t) ∧ (∀ k, hi ≤ k → k < m.length → t ≤ (el m k).1) ∧ a = (m, t, (m.length : Int), (lo : Int), (hi : Int), ()))
    (fun a => Int.toNat (a.2.2.2.2.1 - a.2.2.2.1)) (fun r => r.1 = false ∧ ∃ i : Nat, At m t i ∧ r.2 = (m, t, (m.length : Int), (i : Int), (i : Int), ()))
    (by
      rintro a ⟨lo, hi, h1, h2, h3, h4, rfl⟩
      by_cases hlt : lo < hi
      · left
        have d : decide ((lo : Int) < (hi : Int)) = true := by simpa using hlt
        have hmid := half_eq lo hi (by omega)
        obtain ⟨M, hM⟩ : ∃ M, M = (lo + hi) / 2 := ⟨_, rfl⟩
        rw [← hM] at hmid
        have r1 := rng_nat m M (by omega)
        have g := get_el m M
        have w := wadd1 M (by omega)
        by_cases hc : (el m M).1 < t
        · have dc : decide (uAt (el m M) t < 0) = true := by rw [uAt_eq, uCmp_lt]; simpa using hc
          refine ⟨(m, t, (m.length : Int), ((M + 1 : Nat) : Int), (hi : Int), ()), ?_, ⟨M + 1, hi, by omega, h2, fun k hk => ?_, h4, rfl⟩, by simp only; omega⟩
          · simp only [uFindL0T, RT.val, d, hmid, r1, g, dc, w, cond_true]
          · by_cases e : k = M
            · subst e; exact hc
            · by_cases e2 : k < lo
              · exact h3 k e2
              · have := List.pairwise_iff_getElem.1 hv.1 k M (by omega) (by omega) (by omega)
                have e1 := el_get m k (by omega)
                have e3 := el_get m M (by omega)
                rw [List.getElem?_eq_getElem (by omega), Option.some.injEq] at e1 e3
                rw [e1, e3] at this; omega
        · have dc : decide (uAt (el m M) t < 0) = false := by rw [uAt_eq, uCmp_lt]; simpa using hc
          refine ⟨(m, t, (m.length : Int), (lo : Int), (M : Int), ()), ?_, ⟨lo, M, by omega, by omega, h3, fun k hk hk2 => ?_, rfl⟩, by simp only; omega⟩
          · simp only [uFindL0T, RT.val, d, hmid, r1, g, dc, cond_true, cond_false]
          · by_cases e : k = M
            · subst e; omega
            · have := List.pairwise_iff_getElem.1 hv.1 M k (by omega) (by omega) (by omega)
              have e1 := el_get m k (by omega)
              have e3 := el_get m M (by omega)
              rw [List.getElem?_eq_getElem (by omega), Option.some.injEq] at e1 e3
              rw [e1, e3] at this; omega
      · right; left
        have d : decide ((lo : Int) < (hi : Int)) = false := by simpa using hlt
        have : hi = lo := by omega
        subst this
        exact ⟨_, by simp only [uFindL0T, RT.val, d, cond_false], rfl, hi, ⟨h2, h3, h4⟩, rfl⟩)
    (m, t, iN m.length, 0, iN m.length, ()) ⟨0, m.length, Nat.zero_le _, Nat.le_refl _, fun k h => by omega, fun k h1 h2 => by omega, rfl⟩ (by simp only [iN]; omega)
  obtain ⟨r1, r2⟩ := r
  simp only at h1 hR
  subst h1 hR
  have hd : decide ((i : Int) < (m.length : Int)) = decide (i < m.length) := by simp
  have hv : (uFindT m t).val = some ((i : Int), decide (i < m.length) && ((el m i).1 == t)) := by
    have g := get_el m i
    by_cases hlt : i < m.length
    · have r1 := rng_nat m i hlt
      have hd : decide ((i : Int) < (m.length : Int)) = true := by simpa using hlt
      simp only [uFindT, RT.val, hr, okB, getO, cond_true, hd, r1, Bool.not_true, Bool.false_or, g, uAt_eq, uCmp_eq, hlt, decide_true, Bool.true_and]
    · have hd : decide ((i : Int) < (m.length : Int)) = false := by simpa using hlt
      simp only [uFindT, RT.val, hr, okB, getO, cond_true, cond_false, hd, Bool.not_false, Bool.true_or, hlt, decide_false, Bool.false_and]
  exact ⟨by simp only [uFindC, hv]; rfl, i, hi, by simp only [uFind, hv, getO]⟩
theorem putX_at : ∀ (i : Nat) (m : List Cell) (c : Cell), i ≤ m.length → (∀ k, k < i → (el m k).1 < c.1) → putX m c = m.take i ++ putX (m.drop i) c
  | 0, m, c, _, _ => by simp
  | i + 1, [], c, h, _ => by simp at h
  | i + 1, x :: m, c, h, hk => by
    have h0 : x.1 < c.1 := hk 0 (by omega)
    rw [putX, if_pos h0, putX_at i m c (by simpa using h) (fun k h' => hk (k + 1) (by omega))]
    simp
theorem put_cases (m : List Cell) (t v : Int) (i : Nat) (h : At m t i) :
    (v = 0 → (decide (i < m.length) && ((el m i).1 == t)) = false → putX m (t, v) = m) ∧
    (v = 0 → (decide (i < m.length) && ((el m i).1 == t)) = true → putX m (t, v) = delX m i) ∧
    (v ≠ 0 → (decide (i < m.length) && ((el m i).1 == t)) = true → putX m (t, v) = setI m (i : Int) ((el m i).1, v)) ∧
    (v ≠ 0 → (decide (i < m.length) && ((el m i).1 == t)) = false → putX m (t, v) = insX m i (t, v)) := by
  obtain ⟨h1, h2, h3⟩ := h
  have hp := putX_at i m (t, v) h1 h2
  by_cases hlt : i < m.length
  · have hd := drop_el m i hlt
    have hge := h3 i (Nat.le_refl _) hlt
    have hn : ¬ (el m i).1 < t := by omega
    rw [hd] at hp
    simp only [putX, if_neg hn] at hp
    simp only [hlt, decide_true, Bool.true_and]
    refine ⟨fun hz he => ?_, fun hz he => ?_, fun hz he => ?_, fun hz he => ?_⟩
    · have he : (el m i).1 ≠ t := by simpa using he
      rw [hp, if_pos hz, if_neg he, ← hd, List.take_append_drop]
    · have he : (el m i).1 = t := by simpa using he
      rw [hp, if_pos hz, if_pos he, delX]
    · have he : (el m i).1 = t := by simpa using he
      rw [hp, if_neg hz, if_pos he, setI, Int.toNat_natCast, he, List.set_eq_take_append_cons_drop, if_pos hlt]
    · have he : (el m i).1 ≠ t := by simpa using he
      rw [hp, if_neg hz, if_neg he, insX, ← hd]; simp
  · have he : i = m.length := by omega
    subst he
    simp only [List.drop_length, putX] at hp
    simp only [Nat.lt_irrefl, decide_false, Bool.false_and]
    refine ⟨fun hz _ => ?_, fun hz he => by simp at he, fun hz he => by simp at he, fun hz _ => ?_⟩
    · rw [hp, if_pos hz]; simp
    · rw [hp, if_neg hz, insX]; simp
theorem mput_run (m : List Cell) (t v : Int) (hm : m.length + 1 ≤ most) : mPutC m t v = true ∧ mPut m t v = putX (normX m) (t, v) := by
  have hms := mst
  have hv1 := mvalid_eq m (by omega)
  have hb1 : Nat.ble m.length most = true := by rw [Nat.ble_eq]; omega
  have hv : (mPutT m t v).val = some (putX (normX m) (t, v)) := by
    cases hval : vldB m with
    | false =>
      have hl : (m ++ [(t, v)]).length ≤ most := by simp; omega
      have hb2 : Nat.ble (m ++ [(t, v)]).length most = true := by rw [Nat.ble_eq]; exact hl
      obtain ⟨n1, n2⟩ := mnorm_run (m ++ [(t, v)]) hl
      simp only [mPutT, RT.val, hv1.1, hv1.2, hval, hb1, hb2, n1, n2, normX_snoc, Bool.not_false, Bool.not_true, Bool.or_true, Bool.or_self, cond_true]
    | true =>
      have hV := vldB_iff.1 hval
      obtain ⟨f1, i, hi, f2⟩ := ufind_run m t hV (by omega)
      obtain ⟨q1, q2, q3, q4⟩ := put_cases m t v i hi
      have hile : decide ((i : Int) ≤ iN m.length) = true := by simpa [iN] using hi.1
      have hi0 : decide ((0 : Int) ≤ (i : Int)) = true := by simp
      have hb3 : Nat.ble (m.length + 1) most = true := by rw [Nat.ble_eq]; omega
      have w := wadd1 i (by have := hi.1; omega)
      have g := get_el m i
      rw [normX_same hV]
      simp only [mPutT, RT.val, hv1.1, hv1.2, hval, hb1, f1, f2, hile, hi0, hb3, w, g, Bool.not_true, Bool.not_false, Bool.true_or, Bool.or_true, Bool.or_false, Bool.false_or, Bool.and_self, Bool.true_and, cond_true, cond_false, Int.toNat_natCast]
      cases hfd : (decide (i < m.length) && ((el m i).1 == t)) with
      | true =>
        have hlt : i < m.length := by
          rw [Bool.and_eq_true, decide_eq_true_eq] at hfd; exact hfd.1
        have r1 := rng_nat m i hlt
        have hd : decide ((i : Int) < iN m.length) = true := by simpa [iN] using hlt
        have hw : decide (((i + 1 : Nat) : Int) = (i : Int) + 1) = true := by simp
        by_cases hz : v = 0
        · have hz1 : (v == 0) = true := by simpa using hz
          simp only [hz1, r1, hd, hw, q2 hz hfd, Bool.not_true, Bool.not_false, Bool.and_false, Bool.and_true, Bool.true_or, Bool.or_true, Bool.or_false, Bool.false_or, Bool.and_self, cond_true, cond_false]
        · have hz1 : (v == 0) = false := by simpa using hz
          simp only [hz1, r1, hd, hw, q3 hz hfd, Bool.not_true, Bool.not_false, Bool.false_and, Bool.and_false, Bool.and_true, Bool.true_or, Bool.or_true, Bool.or_false, Bool.false_or, Bool.and_self, cond_true, cond_false]
      | false =>
        by_cases hz : v = 0
        · have hz1 : (v == 0) = true := by simpa using hz
          simp only [hz1, q1 hz hfd, Bool.not_true, Bool.not_false, Bool.and_false, Bool.and_true, Bool.true_or, Bool.or_true, Bool.or_false, Bool.false_or, Bool.and_self, cond_true, cond_false]
        · have hz1 : (v == 0) = false := by simpa using hz
          simp only [hz1, q4 hz hfd, Bool.not_true, Bool.not_false, Bool.false_and, Bool.and_false, Bool.and_true, Bool.true_or, Bool.or_true, Bool.or_false, Bool.false_or, Bool.and_self, cond_true, cond_false]
  exact ⟨by simp only [mPutC, hv]; rfl, by simp only [mPut, hv, getO]⟩
end
end Go.Proofs.YtpkijkmagnhciaaGreat
set_option linter.unusedSimpArgs false
open Go Go.S3 Go.Proofs
set_option linter.unusedVariables false
set_option maxRecDepth 100000
namespace Go.Proofs.YtpkijkmagnhciaaGreat
noncomputable section
abbrev pReadMTs : List Sh := [Sh.one rcRG, Sh.one rcCE, Sh.one (R.int IntKind.u16)]
abbrev pReadMRs : Rs := Rs.one (Sh.one (R.int IntKind.u8))
def pReadMT (l : List (Int × Int × Bool × Int)) (m : List (Int × Int)) (t : Int) : RT (Option (Int)) :=
  .br (pFindC l t)
  (.br (decide (pFind l t < 0))
   (.leaf (some (255)))
   (.br (Nat.ble (List.length m) most)
    (.leaf (some (Cells.getX m t)))
    (.leaf none)))
  (.leaf none)
def pReadM (l : List (Int × Int × Bool × Int)) (m : List (Int × Int)) (t : Int) : Int := getO pReadMRs.dflt (pReadMT l m t).val
def pReadMC (l : List (Int × Int × Bool × Int)) (m : List (Int × Int)) (t : Int) : Bool := okB (pReadMT l m t).val
def pReadME : Entry := pureE pReadMTs pReadMRs (fun a => some (pReadMC a.1 a.2.1 a.2.2)) (fun a => pReadM a.1 a.2.1 a.2.2)
theorem pReadM_ok : EntryOk Tryz.prog 170 pReadME :=
  pure_part (P := Tryz.prog) (n := 127) (k := 8) (l := [(223, pFindE), (224, mGetE)]) (ol := []) ⟨pFind_ok, mGet_ok, trivial⟩ Tryz.func170 rfl (by kernel_rfl) Tryz.call170 trivial (ts := pReadMTs) (rs := pReadMRs) (t := fun a => pReadMT a.1 a.2.1 a.2.2) (fun a => by kernel_rfl)
abbrev pWriteMTs : List Sh := [Sh.one rcRG, Sh.one rcCE, Sh.one (R.int IntKind.u16), Sh.one (R.int IntKind.u8)]
abbrev pWriteMRs : Rs := Rs.one (Sh.one rcCE)
def pWriteMT (l : List (Int × Int × Bool × Int)) (m : List (Int × Int)) (t : Int) (v : Int) : RT (Option (List (Int × Int))) :=
  let x1 : Bool := decide (pFind l t ≥ 0) && (R.get (R.pair (R.int IntKind.u16) (R.pair (R.int IntKind.u16) (R.pair R.bool (R.int IntKind.i64)))) l (pFind l t)).2.2.1
  .br (pFindC l t)
  (.br (!decide (pFind l t ≥ 0) || inRng (pFind l t) (List.length l))
   (.br (!x1 || mPutC m t v)
    (.br (x1)
     (.leaf (some (mPut m t v)))
     (.br (mNormC m)
      (.leaf (some (mNorm m)))
      (.leaf none)))
    (.leaf none))
   (.leaf none))
  (.leaf none)
def pWriteM (l : List (Int × Int × Bool × Int)) (m : List (Int × Int)) (t : Int) (v : Int) : List (Int × Int) := getO pWriteMRs.dflt (pWriteMT l m t v).val
def pWriteMC (l : List (Int × Int × Bool × Int)) (m : List (Int × Int)) (t : Int) (v : Int) : Bool := okB (pWriteMT l m t v).val
def pWriteME : Entry := pureE pWriteMTs pWriteMRs (fun a => some (pWriteMC a.1 a.2.1 a.2.2.1 a.2.2.2)) (fun a => pWriteM a.1 a.2.1 a.2.2.1 a.2.2.2)
theorem pWriteM_ok : EntryOk Tryz.prog 171 pWriteME :=
  pure_part (P := Tryz.prog) (n := 1023) (k := 8) (l := [(114, mNormE), (223, pFindE), (225, mPutE)]) (ol := []) ⟨mNorm_ok, pFind_ok, mPut_ok, trivial⟩ Tryz.func171 rfl (by kernel_rfl) Tryz.call171 trivial (ts := pWriteMTs) (rs := pWriteMRs) (t := fun a => pWriteMT a.1 a.2.1 a.2.2.1 a.2.2.2) (fun a => by kernel_rfl)
end
end Go.Proofs.YtpkijkmagnhciaaGreat
open Go Go.S3 Go.Proofs Go.Proofs.Cells
set_option linter.unusedVariables false
set_option linter.unusedSimpArgs false
set_option maxRecDepth 100000
namespace Go.Proofs.YtpkijkmagnhciaaGreat
noncomputable section
def sm {α : Type} (l : List α) : Bool := Nat.ble (l.length + 1) most
def smC (l : List (Int × Int)) : Bool := sm l
def smB (l : List Int) : Bool := sm l
def smG (l : List RegionT) : Bool := sm l
theorem sm_iff {α : Type} {l : List α} : sm l = true ↔ l.length + 1 ≤ most := by simp [sm]
theorem sm_le {α : Type} {l : List α} (h : sm l = true) : l.length ≤ most := by have := sm_iff.1 h; omega
theorem findX_in (l : List RegionT) (t : Int) : -1 ≤ findX l t ∧ (findX l t < 0 ∨ ∃ i : Nat, i < l.length ∧ findX l t = i) := by
  unfold findX
  split
  · rename_i h; exact ⟨by omega, .inr ⟨_, h, rfl⟩⟩
  · exact ⟨by omega, .inl (by omega)⟩
theorem findX_rng (l : List RegionT) (t : Int) (h : 0 ≤ findX l t) : inRng (findX l t) l.length = true := by
  rcases (findX_in l t).2 with h1 | ⟨i, hi, e⟩
  · omega
  · rw [e]; exact rng_nat l i hi
def writeMX (l : List RegionT) (m : List Cell) (t v : Int) : List Cell := bif decide (findX l t ≥ 0) && (R.get GR l (findX l t)).2.2.1 then putX (normX m) (t, v) else normX m
theorem pread_run (l : List RegionT) (m : List Cell) (t : Int) (hl : l.length ≤ most) (hm : m.length ≤ most) : pReadMC l m t = true ∧ pReadM l m t = readMX l m t := by
  have h1 := pfind_run l t hl
  have hb : Nat.ble m.length most = true := by rw [Nat.ble_eq]; exact hm
  have hv : (pReadMT l m t).val = some (readMX l m t) := by
    simp only [pReadMT, RT.val, h1.1, h1.2, hb, cond_true, readMX]
    cases decide (findX l t < 0) <;> rfl
  exact ⟨by simp only [pReadMC, hv]; rfl, by simp only [pReadM, hv, getO]⟩
theorem pwrite_run (l : List RegionT) (m : List Cell) (t v : Int) (hl : l.length ≤ most) (hm : m.length + 1 ≤ most) : pWriteMC l m t v = true ∧ pWriteM l m t v = writeMX l m t v := by
  have h1 := pfind_run l t hl
  have h2 := mput_run m t v hm
  have h3 := mnorm_run m (by omega)
  have hv : (pWriteMT l m t v).val = some (writeMX l m t v) := by
    have hr : (!decide (findX l t ≥ 0) || inRng (findX l t) l.length) = true := by
      by_cases h : 0 ≤ findX l t
      · rw [findX_rng l t h]; simp
      · have : decide (findX l t ≥ 0) = false := by simp; omega
        rw [this]; rfl
    simp only [pWriteMT, RT.val, h1.1, h1.2, h2.1, h2.2, h3.1, h3.2, hr, Bool.or_true, cond_true, writeMX]
    cases decide (findX l t ≥ 0) && (R.get GR l (findX l t)).2.2.1 <;> rfl
  exact ⟨by simp only [pWriteMC, hv]; rfl, by simp only [pWriteM, hv, getO]⟩
theorem tight {P : Program} {f : FuncId} {ts : List Sh} {rs : Rs} {C : HL ts → Bool} {F G : HL ts → rs.den} (h : EntryOk P f (pureE ts rs (fun a => some (C a)) F)) {pre : HL ts → Bool} (hp : ∀ a, pre a = true → C a = true ∧ F a = G a) :
    EntryOk P f (pureE ts rs (fun a => some (pre a)) G) := by
  have key : ∀ a, some (pre a) ≠ some false → pre a = true := fun a h => by cases hq : pre a with
    | true => rfl
    | false => rw [hq] at h; exact absurd rfl h
  exact h.pure_congr (fun a _ hq => by rw [(hp a (key a hq)).1]; simp) (fun a _ hq => (hp a (key a hq)).2)
def rValid1E : Entry := pureE rValidTs rValidRs (fun a => some (smC a)) (fun a => vldB a)
theorem rValid1_ok : EntryOk Tryz.prog 36 rValid1E := tight rValid_ok fun a h => rvalid_eq a (sm_le h)
def rGetM1E : Entry := pureE rGetMTs rGetMRs (fun a => some (smC a.1)) (fun a => getX a.1 a.2)
theorem rGetM1_ok : EntryOk Tryz.prog 29 rGetM1E := tight rGetM_ok fun a h => rget_eq a.1 a.2 (sm_le h)
def mNorm1E : Entry := pureE mNormTs mNormRs (fun a => some (smC a)) (fun a => normX a)
theorem mNorm1_ok : EntryOk Tryz.prog 114 mNorm1E := tight mNorm_ok fun a h => mnorm_run a (sm_le h)
def rLoad1E : Entry := pureE rLoadTs rLoadRs (fun a => some (smB a.2)) (fun a => loadX a.1 a.2)
theorem rLoad1_ok : EntryOk Tryz.prog 27 rLoad1E := tight rLoad_ok fun a h => rload_run a.1 a.2 (sm_iff.1 h)
def rSameM1E : Entry := pureE rSameMTs rSameMRs (fun a => some (smC a.1)) (fun a => decide ((a.1 : List Cell) = a.2))
theorem rSameM1_ok : EntryOk Tryz.prog 25 rSameM1E := tight rSameM_ok fun a h => rsame_run a.1 a.2 (sm_le h)
def pReadM1E : Entry := pureE pReadMTs pReadMRs (fun a => some (smG a.1 && smC a.2.1)) (fun a => readMX a.1 a.2.1 a.2.2)
theorem pReadM1_ok : EntryOk Tryz.prog 170 pReadM1E := tight pReadM_ok fun a h => by rw [Bool.and_eq_true] at h; exact pread_run a.1 a.2.1 a.2.2 (sm_le h.1) (sm_le h.2)
def pWriteM1E : Entry := pureE pWriteMTs pWriteMRs (fun a => some (smG a.1 && smC a.2.1)) (fun a => writeMX a.1 a.2.1 a.2.2.1 a.2.2.2)
theorem pWriteM1_ok : EntryOk Tryz.prog 171 pWriteM1E := tight pWriteM_ok fun a h => by rw [Bool.and_eq_true] at h; exact pwrite_run a.1 a.2.1 a.2.2.1 a.2.2.2 (sm_le h.1) (sm_iff.1 h.2)
end
end Go.Proofs.YtpkijkmagnhciaaGreat
