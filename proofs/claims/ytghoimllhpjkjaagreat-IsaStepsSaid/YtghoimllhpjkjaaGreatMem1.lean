/-
  Contracts of functions; each found by the symbolic executor and checked by the kernel. Conditions: none.
-/
import Derived.Test.YtghoimllhpjkjaaGreatS3Ins
import Derived.Test.YtghoimllhpjkjaaGreatProg
import Derived.Shelf.Spec.SlicesInsertGrow
import Derived.Deep.RegionLaw
import Derived.Lib.SliceRun
import Derived.Test.YtghoimllhpjkjaaGreatS3D
import Derived.Test.YtghoimllhpjkjaaGreatS3Rows
import Derived.Test.YtghoimllhpjkjaaGreatS3Stg
import Derived.Test.YtghoimllhpjkjaaGreatS3Nil
open Go.IntKind (u8 u16 i64)
set_option linter.unusedVariables false
set_option linter.unusedSimpArgs false
namespace Go.Proofs.YtghoimllhpjkjaaGreat
open Go Go.S3 Go.Proofs Go.Shelf Go.RowKit Go.Lib
noncomputable section
set_option maxHeartbeats 4000000 in
set_option maxRecDepth 100000 in
theorem ZIx (b n c i vb vc : Nat) (cs : List Value) (u0 u1 : Value) (w : World) (hi : i < n) (hroom : n + 1 ≤ c) (hc63 : c ≤ 9223372036854775807) (hvb : vb ≠ b) (hcl : cs.length = n * 2)
  (hcs : ∀ j v, cs[j]? = some v → w.cell? ⟨b, j, none⟩ = some v) (hsp : ∀ j, j < (n + 1) * 2 → (w.cell? ⟨b, j, none⟩).isSome = true) (hfz : ∀ j, j < (n + 1) * 2 → w.frozen? ⟨b, j, none⟩ = false)
  (hvs : ∀ j v, [u0, u1][j]? = some v → w.cell? ⟨vb, j, none⟩ = some v) (h1c : ∀ v ∈ cs, v.oneCell' = true) (h1v : ∀ v ∈ [u0, u1], v.oneCell' = true)
  (tA tB : TypeId) (kA kB : Nat) (hsa : w.shape? vb = some (tA, kA)) (hsb : w.shape? b = some (tB, kB)) (hkB : kB ≠ 0) (hfa : w.frozen? ⟨vb, 0, none⟩ = false) (hfe : w.frozen? ⟨vb, kA, none⟩ = false) :
  Calls Tryz.prog 298 #[.slice (some ⟨b, 0, none⟩) n c, .int .i64 i, .slice (some ⟨vb, 0, none⟩) 1 vc] w fun e w' =>
   e = .returned (.slice (some ⟨b, 0, none⟩) (n + 1) c) ∧ w' = (w.drew.setCells b ((i + 1) * 2) (cs.drop (i * 2))).setCells b (i * 2) [u0, u1] := by
 have mixed : Tryz.prog.follows .mixedOrders = true := by kernel_rfl
 have u22 : Tryz.prog.underlying 25 = some (.slice 106) := by kernel_rfl
 have hz2 : ¬ ((i : Int) = (n : Int)) := by omega
 have hsz : (Tryz.prog.info? 106).map (·.size) = some 2 := by kernel_rfl
 have hov : ∀ lb cb, (callFunc 326 #[.slice (some ⟨vb, 0, none⟩) 1 vc, .slice (some ⟨b, (i + 1) * 2, none⟩) lb cb]).run Tryz.prog w = .ok (.value (.bool false)) w := fun lb cb => by
  rw [run_callFunc_extern Tryz.func326 (by kernel_rfl) (by kernel_rfl) (by kernel_rfl) (e := Extern.SlicesOverlaps.overlaps #[25, 25] #[4]) (by kernel_rfl),
   Lib.run_overlaps_apart w 25 4 106 u22 2 (fun w => by rfl) ⟨vb, 0, none⟩ ⟨b, (i + 1) * 2, none⟩ 1 vc lb cb hvb tA tB kA kB hsa hsb hkB hfa hfe]
  rfl
 have hdl : (cs.drop (i * 2)).length = (n - i) * 2 := by rw [List.length_drop, hcl]; omega
 have hw1 : i64.wrap ((i : Int) + 1) = (i : Int) + 1 := by rw [IntKind.wrap_i64]; omega
 have hw2 : i64.wrap ((n : Int) + 1) = (n : Int) + 1 := by rw [IntKind.wrap_i64]; omega
 have hb1 : (0 : Int) ≤ (i : Int) + 1 := by omega
 have hin : i ≤ n := by omega
 have htn : ((i : Int) + 1).toNat = i + 1 := by omega
 have hb2 : ¬ (c = i + 1) := by omega
 have hb3 : (i : Int) ≤ (n : Int) + 1 := by omega
 have hb4 : ¬ (c = i) := by omega
 have hcp1 : ∀ ty dc sc, (Builtin.copy_ #[25, 25] ty #[.slice (some ⟨b, (i + 1) * 2, none⟩) (n - i) dc, .slice (some ⟨b, i * 2, none⟩) (n + 1 - i) sc]).run Tryz.prog w.drew = .ok (goInt (Nat.min (n + 1 - i) (n - i))) (w.drew.setCells b ((i + 1) * 2) (cs.drop (i * 2))) := fun ty dc sc =>
  Zb2 w.drew _ _ ty 106 2 b ((i + 1) * 2) (n - i) dc ⟨b, i * 2, none⟩ (n + 1 - i) sc (cs.drop (i * 2)) u22 hsz (by rw [hdl]; simp only [Nat.min_def]; split <;> omega)
   (fun j v hj => by rw [Addr.add_lit]; exact hcs (i * 2 + j) v (by rwa [List.getElem?_drop] at hj))
   (fun j hj => by exact hsp _ (by omega)) (fun j hj => by exact hfz _ (by omega)) (fun v hv => h1c v (List.mem_of_mem_drop hv))
 obtain ⟨W1, hW1⟩ : ∃ W1, W1 = w.drew.setCells b ((i + 1) * 2) (cs.drop (i * 2)) := ⟨_, rfl⟩
 have hsp1 : ∀ k, k < (n + 1) * 2 → (W1.cell? ⟨b, k, none⟩).isSome = true := fun k hk => by
  rw [hW1]
  exact isSome_setCells b (cs.drop (i * 2)) ((i + 1) * 2) w.drew (fun j hj => hsp _ (by omega)) _ (hsp k hk)
 have hcp2 : ∀ (W : World), (∀ x, W.cell? x = W1.cell? x) → (∀ x, W.frozen? x = W1.frozen? x) → ∀ ty dc, (Builtin.copy_ #[25, 25] ty #[.slice (some ⟨b, i * 2, none⟩) (n + 1 - i) dc, .slice (some ⟨vb, 0, none⟩) 1 vc]).run Tryz.prog W = .ok (goInt (Nat.min 1 (n + 1 - i))) (W.setCells b (i * 2) [u0, u1]) := fun W hWc hWf ty dc =>
  Zb2 W _ _ ty 106 2 b (i * 2) (n + 1 - i) dc ⟨vb, 0, none⟩ 1 vc [u0, u1] u22 hsz (by simp only [Nat.min_def, List.length_cons, List.length_nil]; split <;> omega)
   (fun j v hj => by
    rw [Addr.add_lit, Nat.zero_add, hWc, hW1, World.cell?_setCells_out b _ _ _ _ (fun h _ => absurd h hvb)]
    exact hvs j v hj)
   (fun j hj => by rw [hWc]; simp only [List.length_cons, List.length_nil] at hj; exact hsp1 _ (by omega)) (fun j hj => by rw [hWf, hW1, World.frozen?_setCells]; simp only [List.length_cons, List.length_nil] at hj; exact hfz _ (by omega)) h1v
 rw [← hW1] at hcp1
 go_enter Tryz.func298, Tryz.ntmps298
 go_wp2_with (simp only [hov])
 go_region_law_o (refine step_copy_runI rfl _ _ 25 25 rfl _ _ (by simp [Act.eval, Act.put]) (by simp [Act.eval, Act.put]) (hcp1 _ _ _) ?_)
 go_wp2_with (at_builtin; refine wpList_copy_runI _ rfl _ _ 25 25 rfl _ _ rfl rfl (hcp2 _ (fun _ => rfl) (fun _ => rfl) _ _) ?_)
 go_ret
 first | exact ⟨rfl, rfl⟩ | exact ⟨rfl, by rw [hW1]⟩
set_option maxHeartbeats 4000000 in
set_option maxRecDepth 100000 in
theorem Zt5 (b n c vb vc : Nat) (u0 u1 : Value) (w : World) (hroom : n + 1 ≤ c) (hc63 : c ≤ 9223372036854775807)
  (hsp : ∀ j, j < 2 → (w.cell? ⟨b, n * 2 + j, none⟩).isSome = true) (hfz : ∀ j, j < 2 → w.frozen? ⟨b, n * 2 + j, none⟩ = false)
  (hvs : ∀ j v, [u0, u1][j]? = some v → w.cell? ⟨vb, j, none⟩ = some v) (h1v : ∀ v ∈ [u0, u1], v.oneCell' = true) :
  Calls Tryz.prog 298 #[.slice (some ⟨b, 0, none⟩) n c, .int .i64 n, .slice (some ⟨vb, 0, none⟩) 1 vc] w fun e w' =>
   e = .returned (.slice (some ⟨b, 0, none⟩) (n + 1) c) ∧ w' = w.setCells b (n * 2) [u0, u1] := by
 have mixed : Tryz.prog.follows .mixedOrders = true := by kernel_rfl
 have u22 : Tryz.prog.underlying 25 = some (.slice 106) := by kernel_rfl
 obtain ⟨i0, hi0, hzs⟩ : ∃ i0, Tryz.prog.info? 106 = some i0 ∧ i0.size = 2 := ⟨_, rfl, by kernel_rfl⟩
 have hsrc : Src Tryz.prog i0.size 25 (.slice (some ⟨vb, 0, none⟩) 1 vc) 1 [u0, u1] w := Src.ofSlice w u22 ⟨vb, 0, none⟩ 1 vc [u0, u1] (by rw [hzs]; rfl) (fun j u hj => by rw [Addr.add_lit, Nat.zero_add]; exact hvs j u hj) h1v
 have hrun : ∀ ty, (Builtin.append_ #[25, 25] ty #[.slice (some ⟨b, 0, none⟩) n c, .slice (some ⟨vb, 0, none⟩) 1 vc]).run Tryz.prog w = .ok (.slice (some ⟨b, 0, none⟩) (n + 1) c) (w.setCells b (n * 2) [u0, u1]) := fun ty => by
  have := run_append_room_src (P := Tryz.prog) w 25 25 ty 106 i0 u22 hi0 b 0 n c _ 1 [u0, u1] hsrc hroom (by rw [hzs, Nat.zero_add]; exact hsp) (by rw [hzs, Nat.zero_add]; exact hfz)
  rwa [hzs, Nat.zero_add] at this
 clear hsrc hsp hfz hvs
 go_enter Tryz.func298, Tryz.ntmps298
 go_wp2_with (at_builtin; refine Lib.wpList_append_run _ rfl _ _ _ _ rfl _ _ rfl rfl _ _ (hrun _) ?_)
 go_ret
 exact ⟨rfl, rfl⟩
set_option maxHeartbeats 4000000 in
set_option maxRecDepth 100000 in
theorem ZiJ (base : Option Addr) (n c vb vc : Nat) (cs : List Value) (u0 u1 : Value) (w : World) (hnc : n ≤ c) (hroom : c < n + 1) (hbig : n + 1 ≤ most)
  (hcl : cs.length = n * 2) (hnil : base = none → n = 0) (hz : ∀ i, Tryz.prog.info? 106 = some i → i.zero = some (.agg #[.int .u16 0, .int .u8 0]))
  (hcs : ∀ a, base = some a → ∀ j v, cs[j]? = some v → w.cell? (a.add j) = some v)
  (hvs : ∀ j v, [u0, u1][j]? = some v → w.cell? ⟨vb, j, none⟩ = some v) (h1v : ∀ v ∈ [u0, u1], v.oneCell' = true) :
  Calls Tryz.prog 298 #[.slice base n c, .int .i64 n, .slice (some ⟨vb, 0, none⟩) 1 vc] w fun e w' =>
   e = .returned (.slice (some ⟨w.heap.size, 0, none⟩) (n + 1) (grownCap w (n + 1) c 106)) ∧
   w' = w.drew.alloc (.cells ((cs ++ [u0, u1]).toArray ++ Builtin.zeroCells #[Value.int .u16 0, Value.int .u8 0] (grownCap w (n + 1) c 106 - (n + 1))) 106) := by
 have mixed : Tryz.prog.follows .mixedOrders = true := by kernel_rfl
 have u22 : Tryz.prog.underlying 25 = some (.slice 106) := by kernel_rfl
 obtain ⟨i0, hi0, hzs, hzb⟩ : ∃ i0, Tryz.prog.info? 106 = some i0 ∧ i0.size = 2 ∧ i0.bytes = 4 := ⟨_, rfl, by kernel_rfl, by kernel_rfl⟩
 have hz0 := hz i0 hi0
 have hmost : most ≤ 1073741824 := by decide
 have hsrc : Src Tryz.prog i0.size 25 (.slice (some ⟨vb, 0, none⟩) 1 vc) 1 [u0, u1] w := Src.ofSlice w u22 ⟨vb, 0, none⟩ 1 vc [u0, u1] (by rw [hzs]; rfl) (fun j u hj => by rw [Addr.add_lit, Nat.zero_add]; exact hvs j u hj) h1v
 have hold : (Builtin.firstCells i0.size n (.slice base n c)).run Tryz.prog w.drew = .ok cs.toArray w.drew := by
  cases base with
  | none =>
   have h0 := hnil rfl
   subst h0
   have h0c : cs = [] := List.length_eq_zero_iff.1 (by omega)
   rw [h0c]
   exact run_firstCells_none w.drew _ 0 0 c
  | some a => exact run_firstCells_some w.drew _ n a n c cs (by rw [hzs]; exact hcl) (fun j v hj => hcs a rfl j v hj)
 have hrun : ∀ ty, (Builtin.append_ #[25, 25] ty #[.slice base n c, .slice (some ⟨vb, 0, none⟩) 1 vc]).run Tryz.prog w = _ := fun ty =>
  run_append_grow_src w 25 25 ty 106 i0 _ u22 hi0 hz0 base n c cs hold _ 1 [u0, u1] hsrc hroom (by omega) (by rw [hzb]; exact growslice_fits hroom (by omega))
 clear hsrc hold hvs hz
 go_enter Tryz.func298, Tryz.ntmps298
 cases base with
 | none =>
  have h0 := hnil rfl
  subst h0
  go_wp2_with (at_builtin; refine Lib.wpList_append_run _ rfl _ _ _ _ rfl _ _ rfl rfl _ _ (hrun _) ?_)
  go_ret
  exact ⟨rfl, rfl⟩
 | some a =>
  obtain ⟨ab, ao, asp⟩ := a
  go_wp2_with (at_builtin; refine Lib.wpList_append_run _ rfl _ _ _ _ rfl _ _ rfl rfl _ _ (hrun _) ?_)
  all_goals (go_ret; exact ⟨rfl, rfl⟩)
end
end Go.Proofs.YtghoimllhpjkjaaGreat
open Go.IntKind (u8 u16 i64)
set_option linter.unusedVariables false
set_option linter.unusedSimpArgs false
namespace Go.Proofs.YtghoimllhpjkjaaGreat
open Go Go.S3 Go.Proofs Go.Shelf Go.RowKit Go.Lib
noncomputable section
set_option maxHeartbeats 4000000 in
set_option maxRecDepth 100000 in
theorem ZLn (b n c i vb vc : Nat) (cs : List Value) (u0 u1 : Value) (w : World) (hi : i < n) (hnc : n ≤ c) (hroom : c < n + 1) (hbig : n + 1 ≤ most)
  (hcl : cs.length = n * 2) (hz : ∀ i, Tryz.prog.info? 106 = some i → i.zero = some (.agg #[.int .u16 0, .int .u8 0]))
  (hcs : ∀ j v, cs[j]? = some v → w.cell? ⟨b, j, none⟩ = some v)
  (hvs : ∀ j v, [u0, u1][j]? = some v → w.cell? ⟨vb, j, none⟩ = some v) (h1c : ∀ v ∈ cs, v.oneCell' = true) (h1v : ∀ v ∈ [u0, u1], v.oneCell' = true) :
  Calls Tryz.prog 298 #[.slice (some ⟨b, 0, none⟩) n c, .int .i64 i, .slice (some ⟨vb, 0, none⟩) 1 vc] w fun e w' =>
   e = .returned (.slice (some ⟨w.heap.size, 0, none⟩) (n + 1) (grownCap w (n + 1) c 106)) ∧
   w' = (((w.alloc (.cells ((cs.take (i * 2)).toArray ++ Builtin.zeroCells #[Value.int .u16 0, Value.int .u8 0] (n + 1 - i) ++ Builtin.zeroCells #[Value.int .u16 0, Value.int .u8 0] (grownCap w (n + 1) c 106 - (n + 1))) 106)).drew.setCells w.heap.size (i * 2) [u0, u1]).drew).setCells w.heap.size ((i + 1) * 2) (cs.drop (i * 2)) := by
 have mixed : Tryz.prog.follows .mixedOrders = true := by kernel_rfl
 have u22 : Tryz.prog.underlying 25 = some (.slice 106) := by kernel_rfl
 have u3 : Tryz.prog.underlying 3 = some (.int .i64) := by kernel_rfl
 obtain ⟨i0, hi0, hzs, hzb⟩ : ∃ i0, Tryz.prog.info? 106 = some i0 ∧ i0.size = 2 ∧ i0.bytes = 4 := ⟨_, rfl, by kernel_rfl, by kernel_rfl⟩
 have hz0 := hz i0 hi0
 have hmost : most ≤ 1073741824 := by decide
 have hz2 : ¬ ((i : Int) = (n : Int)) := by omega
 have hz3 : (c : Int) < (n : Int) + 1 := by omega
 have hsz : (Tryz.prog.info? 106).map (·.size) = some 2 := by rw [hi0]; simp [hzs]
 have hbw : b < w.heap.size := block_lt_of_cell (hcs 0 _ (List.getElem?_eq_getElem (by omega)))
 have hvw : vb < w.heap.size := block_lt_of_cell (hvs 0 _ rfl)
 have hkk : (n : Int) + 1 - (i : Int) = ((n + 1 - i : Nat) : Int) := by omega
 have hik : i + (n + 1 - i) = n + 1 := by omega
 have hold : (Builtin.firstCells i0.size i (.slice (some ⟨b, 0, none⟩) i c)).run Tryz.prog w.drew = .ok (cs.take (i * 2)).toArray w.drew :=
  run_firstCells_some w.drew _ i ⟨b, 0, none⟩ i c (cs.take (i * 2)) (by rw [hzs, List.length_take]; omega) (fun j v hj => by
   rw [Addr.add_lit, Nat.zero_add]
   rw [List.getElem?_take] at hj
   split at hj
   ·exact hcs j v hj
   ·cases hj)
 have hrz : ∀ ty, (Builtin.append_ #[25, 3] ty #[.slice (some ⟨b, 0, none⟩) i c, .int .i64 ((n : Int) + 1 - (i : Int))]).run Tryz.prog w =
   .ok (.slice (some ⟨w.heap.size, 0, none⟩) (n + 1) (grownCap w (n + 1) c 106)) (w.drew.alloc (.cells ((cs.take (i * 2)).toArray ++ Builtin.zeroCells #[Value.int .u16 0, Value.int .u8 0] (n + 1 - i) ++ Builtin.zeroCells #[Value.int .u16 0, Value.int .u8 0] (grownCap w (n + 1) c 106 - (n + 1))) 106)) := fun ty => by
  have h := Lib.run_append_grow_zeros w 25 3 ty 106 i0 _ .i64 .i64 u22 u3 hi0 hz0 (some ⟨b, 0, none⟩) i c (cs.take (i * 2)) hold (n + 1 - i) (by omega) (by omega) (by omega) (by omega) (by rw [hzb]; omega) (by rw [hzb, hik]; exact growslice_fits hroom (by omega))
  rw [hik] at h
  rw [hkk]
  exact h
 obtain ⟨G, hG⟩ : ∃ G, G = grownCap w (n + 1) c 106 := ⟨_, rfl⟩
 obtain ⟨ROW, hROW⟩ : ∃ ROW : Array Value, ROW = (cs.take (i * 2)).toArray ++ Builtin.zeroCells #[Value.int .u16 0, Value.int .u8 0] (n + 1 - i) ++ Builtin.zeroCells #[Value.int .u16 0, Value.int .u8 0] (G - (n + 1)) := ⟨_, rfl⟩
 rw [← hG] at hrz ⊢
 rw [← hROW] at hrz ⊢
 have hRl : (n + 1) * 2 ≤ ROW.size := by
  rw [hROW]
  simp only [Array.size_append, List.size_toArray, List.length_take, size_zeroCells, List.length_cons, List.length_nil]
  omega
 obtain ⟨W1, hW1⟩ : ∃ W1, W1 = w.drew.alloc (.cells ROW 106) := ⟨_, rfl⟩
 rw [← hW1] at hrz
 have hN : ∀ j, j < (n + 1) * 2 → (W1.cell? ⟨w.heap.size, j, none⟩).isSome = true := fun j hj => by
  rw [hW1, World.cell?_alloc_at (w := w.drew) ROW _ w.heap.size j rfl, Array.getElem?_eq_getElem (by omega)]; rfl
 have hNf : ∀ j, W1.frozen? ⟨w.heap.size, j, none⟩ = false := fun j => by rw [hW1]; exact World.frozen?_alloc_at (w := w.drew) ROW _ w.heap.size j rfl
 have hOb : ∀ j v, w.cell? ⟨b, j, none⟩ = some v → W1.cell? ⟨b, j, none⟩ = some v := fun j v h => by rw [hW1, World.cell?_alloc_past (w := w.drew) _ b j hbw]; exact h
 have hOv : ∀ j v, w.cell? ⟨vb, j, none⟩ = some v → W1.cell? ⟨vb, j, none⟩ = some v := fun j v h => by rw [hW1, World.cell?_alloc_past (w := w.drew) _ vb j hvw]; exact h
 have hcpA : ∀ (W : World), (∀ x, W.cell? x = W1.cell? x) → (∀ x, W.frozen? x = W1.frozen? x) → ∀ ty dc, (Builtin.copy_ #[25, 25] ty #[.slice (some ⟨w.heap.size, i * 2, none⟩) (n + 1 - i) dc, .slice (some ⟨vb, 0, none⟩) 1 vc]).run Tryz.prog W = .ok (goInt (Nat.min 1 (n + 1 - i))) (W.setCells w.heap.size (i * 2) [u0, u1]) := fun W hWc hWf ty dc =>
  Zb2 W _ _ ty 106 2 w.heap.size (i * 2) (n + 1 - i) dc ⟨vb, 0, none⟩ 1 vc [u0, u1] u22 hsz (by simp only [Nat.min_def, List.length_cons, List.length_nil]; split <;> omega)
   (fun j v hj => by rw [Addr.add_lit, Nat.zero_add, hWc]; exact hOv _ v (hvs j v hj))
   (fun j hj => by rw [hWc]; simp only [List.length_cons, List.length_nil] at hj; exact hN _ (by omega)) (fun j hj => by rw [hWf]; exact hNf _) h1v
 have hGn : n + 1 ≤ G := by rw [hG]; exact grownCap_ge w _ _ _
 have hG63 : G ≤ 9223372036854775807 := by
  have := grownCap_le_maxLen w (n + 1) c 106 (by unfold maxLen; omega)
  rw [← hG] at this
  unfold maxLen at this
  omega
 have hGi : ¬ (G = i) := by omega
 have hGim : ¬ (G = i + 1) := by omega
 have hci : ¬ (c = i) := by omega
 have hbN : b ≠ w.heap.size := by omega
 have hdl : (cs.drop (i * 2)).length = (n - i) * 2 := by rw [List.length_drop, hcl]; omega
 have hcpB : ∀ (W : World), (∀ x, W.cell? x = (W1.setCells w.heap.size (i * 2) [u0, u1]).cell? x) → (∀ x, W.frozen? x = (W1.setCells w.heap.size (i * 2) [u0, u1]).frozen? x) → ∀ ty dc sc, (Builtin.copy_ #[25, 25] ty #[.slice (some ⟨w.heap.size, (i + 1) * 2, none⟩) (n - i) dc, .slice (some ⟨b, i * 2, none⟩) (n - i) sc]).run Tryz.prog W = .ok (goInt (Nat.min (n - i) (n - i))) (W.setCells w.heap.size ((i + 1) * 2) (cs.drop (i * 2))) := fun W hWc hWf ty dc sc =>
  Zb2 W _ _ ty 106 2 w.heap.size ((i + 1) * 2) (n - i) dc ⟨b, i * 2, none⟩ (n - i) sc (cs.drop (i * 2)) u22 hsz (by rw [hdl]; simp only [Nat.min_def]; split <;> omega)
   (fun j v hj => by
    rw [Addr.add_lit, hWc, World.cell?_setCells_out _ _ _ _ _ (fun h _ => absurd h hbN)]
    exact hOb _ v (hcs (i * 2 + j) v (by rwa [List.getElem?_drop] at hj)))
   (fun j hj => by rw [hWc]; exact isSome_setCells _ _ _ _ (fun t ht => by simp only [List.length_cons, List.length_nil] at ht; exact hN _ (by omega)) _ (hN _ (by omega)))
   (fun j hj => by rw [hWf, World.frozen?_setCells]; exact hNf _) (fun v hv => h1c v (List.mem_of_mem_drop hv))
 subst hW1
 have hE1 : ∀ x, ((w.alloc (.cells ROW 106)).drew).cell? x = (w.drew.alloc (.cells ROW 106)).cell? x := fun x => rfl
 have hE2 : ∀ x, ((w.alloc (.cells ROW 106)).drew).frozen? x = (w.drew.alloc (.cells ROW 106)).frozen? x := fun x => rfl
 have hF1 : ∀ x, (((w.alloc (.cells ROW 106)).drew.setCells w.heap.size (i * 2) [u0, u1]).drew).cell? x = ((w.drew.alloc (.cells ROW 106)).setCells w.heap.size (i * 2) [u0, u1]).cell? x := fun x => rfl
 have hF2 : ∀ x, (((w.alloc (.cells ROW 106)).drew.setCells w.heap.size (i * 2) [u0, u1]).drew).frozen? x = ((w.drew.alloc (.cells ROW 106)).setCells w.heap.size (i * 2) [u0, u1]).frozen? x := fun x => rfl
 have hw1 : i64.wrap ((i : Int) + 1) = (i : Int) + 1 := by rw [IntKind.wrap_i64]; omega
 have hw2 : i64.wrap ((n : Int) + 1) = (n : Int) + 1 := by rw [IntKind.wrap_i64]; omega
 have hb1 : (0 : Int) ≤ (i : Int) + 1 := by omega
 have hin : i ≤ n := by omega
 have htn : ((i : Int) + 1).toNat = i + 1 := by omega
 have hb3 : (i : Int) ≤ (n : Int) := by omega
 clear hkk hik hold hROW hG hRl hz hz0 hi0
 go_enter Tryz.func298, Tryz.ntmps298
 go_wp2_with (first
  | (at_builtin; refine Lib.wpList_append_run _ rfl _ _ _ _ rfl _ _ rfl rfl _ _ (hrz _) ?_)
  | (at_builtin; refine wpList_copy_runI _ rfl _ _ 25 25 rfl _ _ rfl rfl (hcpA _ hE1 hE2 _ _) ?_)
  | (at_builtin; refine wpList_copy_runI _ rfl _ _ 25 25 rfl _ _ rfl rfl (hcpB _ (fun _ => rfl) (fun _ => rfl) _ _ _) ?_))
 go_region_law_o (refine step_copy_runI rfl _ _ 25 25 rfl (.slice (some ⟨w.heap.size, (i + 1) * 2, none⟩) (n - i) (G - (i + 1))) (.slice (some ⟨b, i * 2, none⟩) (n - i) (c - i)) (by simp [Act.eval, Act.put]) (by simp [Act.eval, Act.put]) (hcpB _ hF1 hF2 3 (G - (i + 1)) (c - i)) ?_)
 go_wp2
 go_ret
 exact ⟨rfl, rfl⟩
set_option maxHeartbeats 4000000 in
set_option maxRecDepth 1000000 in
theorem ZPy (b n c i : Nat) (cs : List Value) (z0 z1 : Value) (w : World) (hi : i < n) (hnc : n ≤ c) (hm : c ≤ 9223372036854775807) (hcl : cs.length = n * 2)
  (hz : ∀ w, (zeroValue 106).run Tryz.prog w = .ok (.agg #[.int .u16 0, .int .u8 0]) w) (hzs : (Builtin.zeroCells (Value.agg #[.int .u16 0, .int .u8 0]).cells 1).toList = [z0, z1]) (h1z : ∀ v ∈ [z0, z1], v.oneCell' = true)
  (hcs : ∀ j v, cs[j]? = some v → w.cell? ⟨b, j, none⟩ = some v) (hfz : ∀ j, j < n * 2 → w.frozen? ⟨b, j, none⟩ = false) (h1c : ∀ v ∈ cs, v.oneCell' = true) :
  Calls Tryz.prog 297 #[.slice (some ⟨b, 0, none⟩) n c, .int .i64 i, .int .i64 ((i : Int) + 1)] w fun e w' =>
   e = .returned (.slice (some ⟨b, 0, none⟩) (n - 1) c) ∧ w' = (w.drew.setCells b (i * 2) (cs.drop ((i + 1) * 2))).setCells b ((n - 1) * 2) [z0, z1] := by
 have mixed : Tryz.prog.follows .mixedOrders = true := by kernel_rfl
 have t22 : Tryz.prog.underlying 25 = some (.slice 106) := by kernel_rfl
 obtain ⟨i0, hi0, hz1⟩ : ∃ i0, Tryz.prog.info? 106 = some i0 ∧ i0.size = 2 := ⟨_, rfl, by kernel_rfl⟩
 obtain ⟨news, hnews⟩ : ∃ news, news = cs.drop ((i + 1) * 2) := ⟨_, rfl⟩
 have hlen : news.length = (n - (i + 1)) * 2 := by rw [hnews, List.length_drop, hcl]; omega
 obtain ⟨A, hA, hsrc⟩ : ∃ A : Addr, (if c = i + 1 then some (⟨b, 0, none⟩ : Addr) else some ⟨b, (i + 1) * 2, none⟩) = some A ∧ Hid (∀ t u, news[t]? = some u → w.drew.cell? (A.add t) = some u) := by
  by_cases h : c = i + 1
  ·refine ⟨⟨b, 0, none⟩, by simp [h], fun t u hu => ?_⟩
   have h0 : news.length = 0 := by rw [hlen]; omega
   rw [List.length_eq_zero_iff.1 h0] at hu
   simp at hu
  ·refine ⟨⟨b, (i + 1) * 2, none⟩, by simp [h], fun t u hu => ?_⟩
   rw [Addr.add_lit]
   rw [hnews, List.getElem?_drop] at hu
   exact hcs _ u hu
 have s1 : Hid (news.length = (n - (i + 1)) * 2) := hlen
 have s2 : Hid (∀ u ∈ news, u.oneCell' = true) := by
  intro u hu
  rw [hnews] at hu
  exact h1c u (List.mem_of_mem_drop hu)
 have hsome : ∀ j, j < n * 2 → (w.cell? ⟨b, j, none⟩).isSome = true := fun j hj => by
  rw [hcs j _ (List.getElem?_eq_getElem (by omega))]; rfl
 have s3 : Hid (∀ t, t < news.length → (w.drew.cell? ⟨b, 0 + i * 2 + t, none⟩).isSome = true ∧ w.drew.frozen? ⟨b, 0 + i * 2 + t, none⟩ = false) := by
  intro t ht
  rw [hlen] at ht
  rw [Nat.zero_add]
  exact ⟨hsome _ (by omega), hfz _ (by omega)⟩
 obtain ⟨W1, hW1⟩ : ∃ W1, W1 = w.drew.setCells b (0 + i * 2) news := ⟨_, rfl⟩
 have hsome1 : ∀ j, j < n * 2 → (W1.cell? ⟨b, j, none⟩).isSome = true := fun j hj => by
  rw [hW1]
  exact isSome_setCells b _ _ _ (fun t ht => by rw [hlen] at ht; rw [Nat.zero_add]; exact hsome _ (by omega)) _ (hsome j hj)
 have hcl : ∀ ty dc, (Builtin.clear_ #[25] ty #[.slice (some ⟨b, (i + (n - (i + 1))) * 2, none⟩) (n - (i + (n - (i + 1)))) dc]).run Tryz.prog W1 = .ok (.tuple #[]) (W1.setCells b ((i + (n - (i + 1))) * 2) [z0, z1]) := fun ty dc => by
  rw [show n - (i + (n - (i + 1))) = 1 by omega]
  exact ZjT W1 _ _ ty (.agg #[.int .u16 0, .int .u8 0]) t22 hz b _ 1 dc (by omega) [z0, z1] hzs h1z (fun t ht => hsome1 _ (by simp only [List.length_cons, List.length_nil] at ht; omega)) (fun t ht => by rw [hW1, World.frozen?_setCells]; exact hfz _ (by simp only [List.length_cons, List.length_nil] at ht; omega))
 have hW : Hid (W1 = w.drew.setCells b (0 + i * 2) news) := hW1
 have hfin : w.drew.setCells b (i * 2) (cs.drop ((i + 1) * 2)) = W1 := by rw [hW1, hnews, Nat.zero_add]
 rw [hfin]
 have hic : i ≤ c := by omega
 have hjc : i + 1 ≤ c := by omega
 have hne : ¬ ((i : Int) = (i : Int) + 1) := by omega
 have hb5 : (i : Int) + 1 ≤ (n : Int) := by omega
 have htn : ((i : Int) + 1).toNat = i + 1 := by omega
 have hb1 : (0 : Int) ≤ (i : Int) + 1 := by omega
 clear hW1 hnews hlen hsome hsome1 hfin hcs hfz h1c
 go_enter Tryz.func297, Tryz.ntmps297
 go_wp2_with fail
 go_region_law_o (refine step_append_room rfl (.tmp 22) (.tmp 25) 25 rfl 106 i0 2 t22 hi0 hz1 b 0 i c (by simp [Act.eval, Act.put]) A (n - (i + 1)) (c - (i + 1)) news (by simp [Act.eval, Act.put]) s1.out hsrc.out s2.out (by omega) s3.out ?_; rw [← hW.out])
 go_wp2
 go_ret
 have hq : n - 1 = i + (n - (i + 1)) := by omega
 exact ⟨by rw [hq]; rfl, by rw [hq]⟩
end
end Go.Proofs.YtghoimllhpjkjaaGreat
set_option linter.unusedVariables false
set_option linter.unusedSimpArgs false
namespace Go.Proofs.Cells
abbrev Cell := Int × Int
def flt (k : Int) (l : List Cell) : List Cell := l.filter (fun c => c.1 == k)
def Srt (l : List Cell) : Prop := l.Pairwise (fun a b => a.1 ≤ b.1)
def Sm (l l' : List Cell) : Prop := ∀ k, flt k l = flt k l'
theorem ZcS (k : Int) (a b : List Cell) : flt k (a ++ b) = flt k a ++ flt k b := List.filter_append ..
theorem ZdA {k : Int} {l : List Cell} (h : ∀ c ∈ l, c.1 ≠ k) : flt k l = [] := by
 simp only [flt, List.filter_eq_nil_iff, beq_iff_eq]; exact h
theorem Sm.refl (l : List Cell) : Sm l l := fun _ => rfl
theorem Sm.symm {a b : List Cell} (h : Sm a b) : Sm b a := fun k => (h k).symm
theorem Sm.trans {a b c : List Cell} (h : Sm a b) (k : Sm b c) : Sm a c := fun i => (h i).trans (k i)
theorem Sm.app {a b c d : List Cell} (h : Sm a b) (k : Sm c d) : Sm (a ++ c) (b ++ d) := fun i => by rw [ZcS, ZcS, h i, k i]
theorem Sm.mem {a b : List Cell} (h : Sm a b) (x : Cell) : x ∈ a ↔ x ∈ b := by
 have e : ∀ l : List Cell, x ∈ l ↔ x ∈ flt x.1 l := fun l => by simp [flt]
 rw [e a, e b, h x.1]
theorem uniq : ∀ {l l' : List Cell}, Srt l → Srt l' → Sm l l' → l = l'
 | [], [], _, _, _ => rfl
 | [], y :: r, _, _, h => by have := h y.1; simp [flt] at this
 | x :: l, [], _, _, h => by have := h x.1; simp [flt] at this
 | x :: l, y :: r, hl, hr, h => by
  have h1 := List.pairwise_cons.1 hl
  have h2 := List.pairwise_cons.1 hr
  have hx : x ∈ y :: r := (h.mem x).1 (by simp)
  have hy : y ∈ x :: l := (h.mem y).2 (by simp)
  have e1 : y.1 ≤ x.1 := by
   rcases List.mem_cons.1 hx with e | e
   ·rw [e]; exact Int.le_refl _
   ·exact h2.1 x e
  have e2 : x.1 ≤ y.1 := by
   rcases List.mem_cons.1 hy with e | e
   ·rw [e]; exact Int.le_refl _
   ·exact h1.1 y e
  have e : x.1 = y.1 := Int.le_antisymm e2 e1
  have hxy := h x.1
  have k1 : flt x.1 (x :: l) = x :: flt x.1 l := by simp [flt]
  have k2 : flt x.1 (y :: r) = y :: flt x.1 r := by simp [flt, e]
  rw [k1, k2] at hxy
  obtain ⟨exy, _⟩ := List.cons.inj hxy
  subst exy
  have : l = r := uniq h1.2 h2.2 fun k => by
   have := h k
   by_cases hk : x.1 = k
   ·subst hk; simpa [flt] using this
   ·simpa [flt, hk] using this
  rw [this]
def ins (x : Cell) : List Cell → List Cell
 | [] => [x]
 | y :: r => if x.1 < y.1 then x :: y :: r else y :: ins x r
def isort (l : List Cell) : List Cell := l.foldl (fun a x => ins x a) []
theorem ZIy {x y : Cell} : ∀ {l : List Cell}, y ∈ ins x l ↔ y = x ∨ y ∈ l
 | [] => by simp [ins]
 | z :: r => by
  simp only [ins]
  split
  ·simp
  ·simp only [List.mem_cons, ZIy (l := r)]
   constructor
   ·rintro (h | h | h) <;> simp [h]
   ·rintro (h | h | h) <;> simp [h]
theorem Zyf (x : Cell) : ∀ {l : List Cell}, Srt l → Srt (ins x l)
 | [], _ => by simp [ins, Srt]
 | y :: r, h => by
  have h1 := List.pairwise_cons.1 h
  simp only [ins]
  split
  ·rename_i hlt
   refine List.pairwise_cons.2 ⟨fun z hz => ?_, h⟩
   rcases List.mem_cons.1 hz with e | e
   ·rw [e]; omega
   ·have := h1.1 z e; omega
  ·refine List.pairwise_cons.2 ⟨fun z hz => ?_, Zyf x h1.2⟩
   rcases ZIy.1 hz with e | e
   ·rw [e]; omega
   ·exact h1.1 z e
theorem ZIA (k : Int) (x : Cell) : ∀ {l : List Cell}, Srt l → flt k (ins x l) = flt k l ++ flt k [x]
 | [], _ => by simp [ins, flt]
 | y :: r, h => by
  have h1 := List.pairwise_cons.1 h
  simp only [ins]
  split
  ·rename_i hlt
   by_cases hk : x.1 = k
   ·have : flt k (y :: r) = [] := ZdA fun c hc => by
     rcases List.mem_cons.1 hc with e | e
     ·rw [e]; omega
     ·have := h1.1 c e; omega
    have e : flt k (x :: y :: r) = flt k [x] ++ flt k (y :: r) := ZcS k [x] (y :: r)
    rw [e, this]; simp
   ·have e1 : flt k [x] = [] := ZdA fun c hc => by simp at hc; rw [hc]; exact hk
    have e : flt k (x :: y :: r) = flt k [x] ++ flt k (y :: r) := ZcS k [x] (y :: r)
    rw [e, e1]; simp
  ·have e : ∀ t, flt k (y :: t) = flt k [y] ++ flt k t := fun t => ZcS k [y] t
   rw [e, e r, ZIA k x h1.2, List.append_assoc]
theorem ZDz (l : List Cell) (x : Cell) : isort (l ++ [x]) = ins x (isort l) := by simp [isort]
theorem ZAH : ∀ (l acc : List Cell), Srt acc → Srt (l.foldl (fun a x => ins x a) acc)
 | [], _, h => h
 | x :: l, acc, h => ZAH l (ins x acc) (Zyf x h)
theorem ZAJ (k : Int) : ∀ (l acc : List Cell), Srt acc → flt k (l.foldl (fun a x => ins x a) acc) = flt k acc ++ flt k l
 | [], acc, _ => by simp [flt]
 | x :: l, acc, h => by
  have e : flt k (x :: l) = flt k [x] ++ flt k l := ZcS k [x] l
  rw [List.foldl_cons, ZAJ k l _ (Zyf x h), ZIA k x h, e, List.append_assoc]
theorem Zbu (l : List Cell) : Srt (isort l) := ZAH l [] List.Pairwise.nil
theorem Zeo (l : List Cell) : Sm (isort l) l := fun k => by rw [isort, ZAJ k l [] List.Pairwise.nil]; rfl
theorem ZfN {l l' : List Cell} (h1 : Srt l') (h2 : Sm l' l) : isort l = l' := uniq (Zbu l) h1 ((Zeo l).trans h2.symm)
theorem Zt4 {l : List Cell} {x : Cell} : x ∈ isort l ↔ x ∈ l := (Zeo l).mem x
theorem Zn4 {l : List Cell} (h : Srt l) : isort l = l := ZfN h (Sm.refl l)
theorem Zms {l l' : List Cell} (h : Sm l l') : isort l = isort l' := ZfN (Zbu l') ((Zeo l').trans h.symm)
theorem ZIs {a b : List Cell} (h : ∀ x ∈ a, ∀ y ∈ b, x.1 ≤ y.1) : isort (a ++ b) = isort a ++ isort b :=
 ZfN (List.pairwise_append.2 ⟨Zbu a, Zbu b, fun x hx y hy => h x (Zt4.1 hx) y (Zt4.1 hy)⟩) ((Zeo a).app (Zeo b))
theorem Sm.swap {u v : List Cell} (h : ∀ x ∈ u, ∀ y ∈ v, x.1 ≠ y.1) (a b : List Cell) : Sm (a ++ u ++ v ++ b) (a ++ v ++ u ++ b) := by
 have : Sm (u ++ v) (v ++ u) := fun k => by
  rw [ZcS, ZcS]
  by_cases hu : flt k u = []
  ·simp [hu]
  ·have : flt k v = [] := ZdA fun y hy e => by
    apply hu
    refine ZdA fun x hx e' => h x hx y hy (by rw [e, e'])
   simp [this]
 rw [List.append_assoc a u v, List.append_assoc a v u]
 exact ((Sm.refl a).app this).app (Sm.refl b)
theorem ZNt {u1 u2 v1 v2 : List Cell} (h12 : ∀ x ∈ u2, ∀ y ∈ v1, y.1 < x.1) (h1 : ∀ x ∈ u1, ∀ y ∈ v2, x.1 ≤ y.1) (hu : ∀ x ∈ u1, ∀ y ∈ u2, x.1 ≤ y.1) (hv : ∀ x ∈ v1, ∀ y ∈ v2, x.1 ≤ y.1) :
  isort (u1 ++ u2 ++ v1 ++ v2) = isort (u1 ++ v1) ++ isort (u2 ++ v2) := by
 rw [Zms (Sm.swap (fun x hx y hy => by have := h12 x hx y hy; omega) u1 v2)]
 rw [List.append_assoc (u1 ++ v1) u2 v2]
 refine ZIs fun x hx y hy => ?_
 rcases List.mem_append.1 hx with hx | hx <;> rcases List.mem_append.1 hy with hy | hy
 ·exact hu x hx y hy
 ·exact h1 x hx y hy
 ·have := h12 y hy x hx; omega
 ·exact hv x hx y hy
end Go.Proofs.Cells
open Go.IntKind (u8 u16 i64)
set_option linter.unusedVariables false
set_option linter.unusedSimpArgs false
set_option maxRecDepth 100000
namespace Go.Proofs.YtghoimllhpjkjaaGreat
open Go Go.S3 Go.Proofs Go.Proofs.Cells
noncomputable section
abbrev Zb1 : R := R.pair (R.int u16) (R.int u8)
abbrev ZbR : TypeId := 106
def insX {α : Type} (l : List α) (i : Nat) (c : α) : List α := l.take i ++ [c] ++ l.drop i
def delX {α : Type} (l : List α) (i : Nat) : List α := l.take i ++ l.drop (i + 1)
def Zhi (m : Mem) (h : Nat) (l : List Zb1.den) (v : Nat) (chk : Bool) : Res :=
 { chk := some chk, v := .w (.one (.tip h (v + 1))), m := { m with stgs := setN m.stgs h ⟨Zb1, ZbR, l, v + 1, false, false, false, 0⟩ }, bd := [], sd := [h] }
def insE : Entry := .tree fun vs m => match vs with
 | [.w (.one (.tip h ver)), .w (.one (.int _ .i64 i)), .w (.one (.tip h2 ver2))] => match Zbj m h ver, Zbj m h2 ver2 with
  | some g, some g2 => match R.same g.r Zb1, R.same g2.r Zb1, !g.fzn && Nat.beq g.T ZbR && Nat.beq g2.T ZbR && !Nat.beq h h2 with
   | some e, some e2, true => match e2.slc.cast g2.l with
    | [c] => .leaf (some (Zhi m h (insX (e.slc.cast g.l) i.toNat c) g.ver (decide (0 ≤ i) && decide (i ≤ ((e.slc.cast g.l).length : Int)) && Nat.ble ((e.slc.cast g.l).length + 1) most)))
    | _ => .leaf none
   | _, _, _ => .leaf none
  | _, _ => .leaf none
 | _ => .leaf none
def delE : Entry := .tree fun vs m => match vs with
 | [.w (.one (.tip h ver)), .w (.one (.int _ .i64 i)), .w (.one (.int _ .i64 j))] => match Zbj m h ver with
  | some g => match R.same g.r Zb1, !g.fzn && Nat.beq g.T ZbR with
   | some e, true => .leaf (some (Zhi m h (delX (e.slc.cast g.l) i.toNat) g.ver (decide (0 ≤ i) && decide (i < ((e.slc.cast g.l).length : Int)) && decide (j = i + 1))))
   | _, _ => .leaf none
  | none => .leaf none
 | _ => .leaf none
theorem Zmv {m : Mem} {h : Nat} {l : List Zb1.den} {v : Nat} {chk : Bool} {g : Stg} (hg : nth m.stgs h = some g) (hv : g.ver = v) : KeepC m (Zhi m h l v chk) := by
 refine ⟨Nat.le_refl _, fun b l hl => ⟨l, hl, rfl, fun _ _ => rfl⟩, by simp [Zhi, ZO], fun i g1 h1 => ?_⟩
 by_cases hi : h = i
 ·subst hi
  rw [hg] at h1; simp only [oinj] at h1; subst h1
  exact ⟨_, ZK hg, by simp only; omega, fun h => by simp [Zhi, memN] at h⟩
 ·exact ⟨g1, by show nth (setN m.stgs h _) i = _; rw [ZL hi]; exact h1, Nat.le_refl _, fun _ => rfl⟩
theorem wid2 : Zb1.wid = 2 := rfl
theorem ZmU (w : World) (o : Obj) : (w.alloc o).heap[w.heap.size]? = some o := by
 show (w.heap.push o)[w.heap.size]? = some o
 simp
theorem Zhu : ∃ i0, Tryz.prog.info? ZbR = some i0 ∧ i0.zero = some (.agg #[.int .u16 0, .int .u8 0]) := ⟨_, rfl, by kernel_rfl⟩
theorem ZJf (w : World) : (zeroValue ZbR).run Tryz.prog w = .ok (Value.agg #[.int .u16 0, .int .u8 0]) w := by
 obtain ⟨i0, h1, h2⟩ := Zhu
 simp [zeroValue, typeInfo, h1, h2]
theorem ZPQ {x : Ctx} {c : Zb1.den} {a : List Value} (h : RowsOk x Zb1 [c] a) : ∃ u0 u1, a = [u0, u1] := by
 have := h.len
 simp only [List.length_singleton, wid2] at this
 match a, this with
 | [u0, u1], _ => exact ⟨u0, u1, rfl⟩
theorem ZLl {x : Ctx} {l : List Zb1.den} {a : List Value} {c : Zb1.den} {b : List Value} (h : RowsOk x Zb1 l a) (hc : RowsOk x Zb1 [c] b) (i : Nat) : RowsOk x Zb1 (insX l i c) (a.take (i * 2) ++ b ++ a.drop (i * 2)) := ((h.take i).append hc).append (h.drop i)
theorem ZLD {x : Ctx} {l : List Zb1.den} {a : List Value} (h : RowsOk x Zb1 l a) (i : Nat) : RowsOk x Zb1 (delX l i) (a.take (i * 2) ++ a.drop ((i + 1) * 2)) := (h.take i).append (h.drop (i + 1))
theorem ZLo {α : Type} (l : List α) (i : Nat) (c : α) : (insX l i c).length = l.length + 1 := by simp [insX]; omega
theorem ZLF {α : Type} (l : List α) (i : Nat) (h : i < l.length) : (delX l i).length = l.length - 1 := by simp [delX]; omega
def Made (w w' : World) (e : Ending) (s : SI) (x : Ctx) (l : List Zb1.den) : Prop :=
 w'.os = w.os ∧ w'.tape = w.tape ∧ w'.output = w.output ∧ w.heap.size ≤ w'.heap.size ∧ (∀ k, k < w.heap.size → (∀ cap, s.blk ≠ some (k, cap)) → w'.heap[k]? = w.heap[k]?) ∧
 ∃ p cap C rest, ((∃ c, s.blk = some (p, c)) ∨ w.heap.size ≤ p) ∧ w'.heap[p]? = some (.cells (List.toArray (C ++ rest)) ZbR (0, 0)) ∧ (C ++ rest).length = cap * 2 ∧ l.length ≤ cap ∧ cap ≤ maxLen ∧ RowsOk x Zb1 l C ∧
  e = .returned (.slice (some ⟨p, 0, none⟩) l.length cap)
theorem ZH6 {x : Ctx} {m : Mem} {w w' : World} (hm : MemOk x m w) {h : Nat} {g : Stg} {s : SI} (hg : nth m.stgs h = some g) (hs : nth x.S h = some s) (hf : g.fzn = false) (hr : g.r = Zb1) (hT : g.T = ZbR)
  {l : List Zb1.den} {e : Ending} (hd : Made w w' e s x l) {chk : Bool} :
  ∃ val x', e = .returned val ∧ RV x' (Zhi m h l g.ver chk).v val ∧ MemOk x' (Zhi m h l g.ver chk).m w' ∧ Ext x x' ∧ Step x w w' := by
 obtain ⟨h1, h2, h3, h4, h5, p, cap, C, rest, h6, h7, h8, h9, h10, h11, rfl⟩ := hd
 obtain ⟨r, T, gl, gv, gf, gff, glit, gub⟩ := g
 simp only at hr hT
 subst hr; subst hT
 obtain ⟨x', m1, e1, s1, a1⟩ := ZP1 hm hg hs hf h1 h2 h3 h4 h5 (l := l) h6 h7 h8 h9 h10 (h11.pre rest)
 exact ⟨_, x', rfl, a1, m1, e1, s1⟩
theorem Zop {C A B : List Value} {n : Nat} (h : C = A ++ B) (hn : A.length = n) : C.take n = A := by rw [h, List.take_append_of_le_length (by omega), List.take_of_length_le (by omega)]
theorem ZLB {C A B : List Value} {n : Nat} (h : C = A ++ B) (hn : A.length = n) : C.drop n = B := by rw [h, List.drop_append_of_le_length (by omega), List.drop_eq_nil_of_le (by omega), List.nil_append]
theorem ZLm {x : Ctx} {m : Mem} {w : World} (hm : MemOk x m w) {h : Nat} {g : Stg} {s : SI} (hg : nth m.stgs h = some g) (hs : nth x.S h = some s) (hr : g.r = Zb1) (hT : g.T = ZbR)
  {l : List Zb1.den} (hl : HEq g.l l) {i : Nat} (hi : i ≤ l.length) (hbig : l.length + 1 ≤ most) {c : Zb1.den} {u0 u1 : Value} (hc : RowsOk x Zb1 [c] [u0, u1])
  {pv cv : Nat} {Cv : List Value} (hv : w.heap[pv]? = some (.cells (List.toArray ([u0, u1] ++ Cv)) ZbR (0, 0))) (hne : ∀ cap, s.blk ≠ some (pv, cap)) :
  Calls Tryz.prog 298 #[tipVal s, .int .i64 i, .slice (some ⟨pv, 0, none⟩) 1 cv] w fun e w' => Made w w' e s x (insX l i c) := by
 have ho := hm.stg h g s hg hs
 obtain ⟨r, T, gl, gv, gf, gff, glit, gub⟩ := g
 simp only at hr hT
 subst hr; subst hT
 have hl := eq_of_heq hl
 simp only at hl
 subst hl
 have hmost : most ≤ 1073741824 := by decide
 have hmax : maxLen = 9223372036854775807 := rfl
 have h1v : ∀ v ∈ [u0, u1], v.oneCell' = true := hc.one (by decide)
 have hvs : ∀ j v, [u0, u1][j]? = some v → w.cell? ⟨pv, j, none⟩ = some v := fun j v hj => by
  rw [Zae hv, List.getElem?_append_left (List.getElem?_eq_some_iff.1 hj).1]; exact hj
 have hpv := Zgp hv
 have hn := ho.n
 simp only at hn
 have hil := ZLo gl i c
 cases hb : s.blk with
 | none =>
  have h0 := ho.nil hb
  have hnil : gl = [] := List.length_eq_zero_iff.1 (by omega)
  subst hnil
  have hi0 : i = 0 := by simpa using hi
  subst hi0
  have ht : tipVal s = .slice s.na 0 0 := by simp [tipVal, hb]
  rw [ht]
  refine (ZiJ s.na 0 0 pv cv [] u0 u1 w (Nat.le_refl _) (by omega) (by omega) rfl (fun _ => rfl) (fun i0 hi0 => by obtain ⟨i1, e1, e2⟩ := Zhu; rw [e1] at hi0; simp only [oinj] at hi0; subst hi0; exact e2) (fun _ _ j v hj => by simp at hj) hvs h1v).mono ?_
  rintro e w' ⟨rfl, rfl⟩
  have hG := grownCap_ge w (0 + 1) 0 ZbR
  have hG2 := grownCap_le_maxLen w (0 + 1) 0 ZbR (by rw [hmax]; omega)
  generalize grownCap w (0 + 1) 0 ZbR = G at hG hG2
  refine ⟨rfl, rfl, rfl, by simp, fun k hk _ => RowKit.Below.heap_alloc w.drew _ k hk, w.heap.size, G, [u0, u1], (Builtin.zeroCells #[.int .u16 0, .int .u8 0] (G - (0 + 1))).toList, .inr (Nat.le_refl _), ?_, ?_, by rw [hil]; exact hG, hG2, by simpa [insX] using hc, by rw [hil]; rfl⟩
  ·have := ZmU w.drew (.cells (([] ++ [u0, u1] : List Value).toArray ++ Builtin.zeroCells #[Value.int .u16 0, Value.int .u8 0] (G - (0 + 1))) ZbR)
   refine this.trans ?_
   simp [Value.cells]
  ·simp only [List.length_append, List.length_cons, List.length_nil, Array.length_toList, size_zeroCells]
   simp; omega
 | some pc =>
  obtain ⟨p, cap⟩ := pc
  obtain ⟨C, c1, c2, c3, c4, _⟩ := ho.row p cap hb
  obtain ⟨hrows, _, _, _⟩ := RowsOk.of_tip ho c1 hb
  simp only [wid2] at c2 hrows
  simp only at c1
  have ht : tipVal s = .slice (some ⟨p, 0, none⟩) gl.length cap := by simp [tipVal, hb, hn]
  rw [ht]
  have hp := Zgp c1
  have hcell : ∀ j, w.cell? ⟨p, j, none⟩ = C[j]? := fun j => Zae c1 j
  have hfr : ∀ j, w.frozen? ⟨p, j, none⟩ = false := fun j => Zer c1 j
  obtain ⟨cs, hcs⟩ : ∃ cs, cs = C.take (gl.length * 2) := ⟨_, rfl⟩
  rw [← hcs] at hrows
  have hcsl : cs.length = gl.length * 2 := hrows.len
  have h1c : ∀ v ∈ cs, v.oneCell' = true := hrows.one (by decide)
  have hcsc : ∀ j v, cs[j]? = some v → w.cell? ⟨p, j, none⟩ = some v := fun j v hj => by
   rw [hcell]
   rw [hcs, List.getElem?_take] at hj
   split at hj
   ·exact hj
   ·simp at hj
  have hne' : pv ≠ p := fun e => hne cap (by rw [hb, e])
  have hrow := ZLl hrows hc i
  have hsome : ∀ j, j < cap * 2 → (w.cell? ⟨p, j, none⟩).isSome = true := fun j hj => by rw [hcell, List.getElem?_eq_getElem (by omega)]; rfl
  by_cases hroom : gl.length + 1 ≤ cap
  ·by_cases hend : i = gl.length
   ·-- at the end, room
    subst hend
    refine (Zt5 p gl.length cap pv cv u0 u1 w hroom (by rw [hmax] at c4; omega) (fun j hj => hsome _ (by omega)) (fun j hj => hfr _) hvs h1v).mono ?_
    rintro e w' ⟨rfl, rfl⟩
    have hh := Za5 (w := w) (b := p) (o := gl.length * 2) (vs := [u0, u1]) c1 (by simp; omega) h1v
    obtain ⟨z1, z2, z3⟩ := ZaQ p [u0, u1] (gl.length * 2) w
    refine ⟨z1, z2, z3, by rw [ZaP]; exact Nat.le_refl _, fun k hk hkb => ZaA p _ _ _ k (fun e => hkb cap (by rw [e, hb])), p, cap, _, C.drop (gl.length * 2 + 2), .inl ⟨cap, hb⟩, ?_, ?_, by rw [hil]; exact hroom, c4, hrow, by rw [hil]⟩
    ·rw [hh]
     have e1 : cs.take (gl.length * 2) = cs := List.take_of_length_le (by omega)
     have e2 : cs.drop (gl.length * 2) = [] := List.drop_eq_nil_of_le (by omega)
     rw [e1, e2, ← hcs]; simp
    ·have e2 : cs.drop (gl.length * 2) = [] := List.drop_eq_nil_of_le (by omega)
     rw [e2]; simp only [List.length_append, List.length_take, List.length_drop, List.length_cons, List.length_nil]; omega
   ·-- a shift
    have hkB : C.toArray.size ≠ 0 := by simp only [List.size_toArray]; omega
    refine (ZIx p gl.length cap i pv cv cs u0 u1 w (by omega) hroom (by rw [hmax] at c4; omega) hne' hcsl hcsc (fun j hj => hsome _ (by omega)) (fun j _ => hfr _) hvs h1c h1v ZbR ZbR ([u0, u1] ++ Cv).toArray.size C.toArray.size (by simp [World.shape?, hv]) (by simp [World.shape?, c1]) hkB (Zer hv _) (Zer hv _)).mono ?_
    rintro e w' ⟨rfl, rfl⟩
    have hdl : (cs.drop (i * 2)).length = (gl.length - i) * 2 := by rw [List.length_drop, hcsl]; omega
    have hh1 := Za5 (w := w.drew) (b := p) (o := (i + 1) * 2) (vs := cs.drop (i * 2)) c1 (by rw [hdl]; omega) (fun v hv => h1c v (List.mem_of_mem_drop hv))
    obtain ⟨C1, hC1⟩ : ∃ C1, C1 = C.take ((i + 1) * 2) ++ cs.drop (i * 2) ++ C.drop ((i + 1) * 2 + (cs.drop (i * 2)).length) := ⟨_, rfl⟩
    rw [← hC1] at hh1
    have hC1l : C1.length = C.length := by rw [hC1]; simp only [List.length_append, List.length_take, List.length_drop, hdl]; omega
    have hh := Za5 (w := w.drew.setCells p ((i + 1) * 2) (cs.drop (i * 2))) (b := p) (o := i * 2) (vs := [u0, u1]) hh1 (by simp; omega) h1v
    obtain ⟨z1, z2, z3⟩ := ZaQ p [u0, u1] (i * 2) (w.drew.setCells p ((i + 1) * 2) (cs.drop (i * 2)))
    obtain ⟨y1, y2, y3⟩ := ZaQ p (cs.drop (i * 2)) ((i + 1) * 2) w.drew
    refine ⟨z1.trans y1, z2.trans y2, z3.trans y3, by rw [ZaP, ZaP]; exact Nat.le_refl _, fun k hk hkb => ?_, p, cap, _, C.drop ((gl.length + 1) * 2), .inl ⟨cap, hb⟩, ?_, ?_, by rw [hil]; exact hroom, c4, hrow, by rw [hil]⟩
    ·have : k ≠ p := fun e => hkb cap (by rw [e, hb])
     rw [ZaA p _ _ _ k this, ZaA p _ _ _ k this]; rfl
    ·rw [hh]
     have e1 : C1.take (i * 2) = cs.take (i * 2) := by
      rw [hC1, List.append_assoc, List.take_append_of_le_length (by simp; omega), List.take_take, hcs, List.take_take, Nat.min_eq_left (by omega), Nat.min_eq_left (by omega)]
     have e2 : C1.drop (i * 2 + [u0, u1].length) = cs.drop (i * 2) ++ C.drop ((gl.length + 1) * 2) := by
      refine ZLB (A := C.take ((i + 1) * 2)) ?_ (by simp; omega)
      rw [hC1, hdl, List.append_assoc]; congr 3; omega
     rw [e1, e2]; simp
    ·simp only [List.length_append, List.length_take, List.length_drop, List.length_cons, List.length_nil, hdl, hcsl, c2]; omega
  ·have hcap : cap = gl.length := by have := hn; omega
   by_cases hend : i = gl.length
   ·-- at the end, a new row
    subst hend
    refine (ZiJ (some ⟨p, 0, none⟩) gl.length cap pv cv cs u0 u1 w (by omega) (by omega) hbig hcsl (fun e => by simp at e) (fun i0 hi0 => by obtain ⟨i1, e1, e2⟩ := Zhu; rw [e1] at hi0; simp only [oinj] at hi0; subst hi0; exact e2) (fun a ha j v hj => by
     simp only [oinj] at ha; subst ha
     rw [Addr.add_lit, Nat.zero_add]; exact hcsc j v hj) hvs h1v).mono ?_
    rintro e w' ⟨rfl, rfl⟩
    have hG := grownCap_ge w (gl.length + 1) cap ZbR
    have hG2 := grownCap_le_maxLen w (gl.length + 1) cap ZbR (by rw [hmax]; omega)
    generalize grownCap w (gl.length + 1) cap ZbR = G at hG hG2
    refine ⟨rfl, rfl, rfl, by simp, fun k hk _ => RowKit.Below.heap_alloc w.drew _ k hk, w.heap.size, G, _, (Builtin.zeroCells #[.int .u16 0, .int .u8 0] (G - (gl.length + 1))).toList, .inr (Nat.le_refl _), ?_, ?_, by rw [hil]; exact hG, hG2, hrow, by rw [hil]⟩
    ·have := ZmU w.drew (.cells ((cs ++ [u0, u1] : List Value).toArray ++ Builtin.zeroCells #[Value.int .u16 0, Value.int .u8 0] (G - (gl.length + 1))) ZbR)
     refine this.trans ?_
     have e1 : cs.take (gl.length * 2) = cs := List.take_of_length_le (by omega)
     have e2 : cs.drop (gl.length * 2) = [] := List.drop_eq_nil_of_le (by omega)
     rw [e1, e2]; simp [Value.cells]
    ·have e2 : cs.drop (gl.length * 2) = [] := List.drop_eq_nil_of_le (by omega)
     rw [e2]
     simp only [List.length_append, List.length_take, List.length_cons, List.length_nil, Array.length_toList, size_zeroCells]
     simp; omega
   ·refine (ZLn p gl.length cap i pv cv cs u0 u1 w (by omega) (by omega) (by omega) hbig hcsl (fun i0 hi0 => by obtain ⟨i1, e1, e2⟩ := Zhu; rw [e1] at hi0; simp only [oinj] at hi0; subst hi0; exact e2) hcsc hvs h1c h1v).mono ?_
    rintro e w' ⟨rfl, rfl⟩
    have hG := grownCap_ge w (gl.length + 1) cap ZbR
    have hG2 := grownCap_le_maxLen w (gl.length + 1) cap ZbR (by rw [hmax]; omega)
    generalize grownCap w (gl.length + 1) cap ZbR = G at hG hG2
    obtain ⟨R0, hR0⟩ : ∃ R0 : List Value, R0 = cs.take (i * 2) ++ ((Builtin.zeroCells #[.int .u16 0, .int .u8 0] (gl.length + 1 - i)).toList ++ (Builtin.zeroCells #[.int .u16 0, .int .u8 0] (G - (gl.length + 1))).toList) := ⟨_, rfl⟩
    have hR : ((cs.take (i * 2)).toArray ++ Builtin.zeroCells #[Value.int .u16 0, Value.int .u8 0] (gl.length + 1 - i) ++ Builtin.zeroCells #[Value.int .u16 0, Value.int .u8 0] (G - (gl.length + 1))) = R0.toArray := by
     rw [hR0]; simp [Value.cells]
    rw [hR]
    have hR0l : R0.length = G * 2 := by
     rw [hR0]; simp only [List.length_append, List.length_take, Array.length_toList, size_zeroCells]; simp; omega
    have hdl : (cs.drop (i * 2)).length = (gl.length - i) * 2 := by rw [List.length_drop, hcsl]; omega
    have hnew : ((w.alloc (.cells R0.toArray ZbR)).drew).heap[w.heap.size]? = some (.cells R0.toArray ZbR (0, 0)) := ZmU w _
    have hh1 := Za5 (b := w.heap.size) (o := i * 2) (vs := [u0, u1]) hnew (by simp; omega) h1v
    obtain ⟨C1, hC1⟩ : ∃ C1, C1 = R0.take (i * 2) ++ [u0, u1] ++ R0.drop (i * 2 + [u0, u1].length) := ⟨_, rfl⟩
    rw [← hC1] at hh1
    have hC1l : C1.length = G * 2 := by rw [hC1]; simp only [List.length_append, List.length_take, List.length_drop, List.length_cons, List.length_nil]; omega
    have hh := Za5 (w := (((w.alloc (.cells R0.toArray ZbR)).drew.setCells w.heap.size (i * 2) [u0, u1]).drew)) (b := w.heap.size) (o := (i + 1) * 2) (vs := cs.drop (i * 2)) hh1 (by rw [hdl]; omega) (fun v hv => h1c v (List.mem_of_mem_drop hv))
    obtain ⟨z1, z2, z3⟩ := ZaQ w.heap.size (cs.drop (i * 2)) ((i + 1) * 2) (((w.alloc (.cells R0.toArray ZbR)).drew.setCells w.heap.size (i * 2) [u0, u1]).drew)
    obtain ⟨y1, y2, y3⟩ := ZaQ w.heap.size [u0, u1] (i * 2) (w.alloc (.cells R0.toArray ZbR)).drew
    refine ⟨z1.trans y1, z2.trans y2, z3.trans y3, ?_, fun k hk hkb => ?_, w.heap.size, G, _, C1.drop ((i + 1) * 2 + (cs.drop (i * 2)).length), .inr (Nat.le_refl _), ?_, ?_, by rw [hil]; exact hG, hG2, hrow, by rw [hil]⟩
    ·rw [ZaP]; show _ ≤ ((w.alloc (.cells R0.toArray ZbR)).drew.setCells w.heap.size (i * 2) [u0, u1]).heap.size
     rw [ZaP]; show _ ≤ (w.alloc (.cells R0.toArray ZbR)).heap.size
     simp
    ·have : k ≠ w.heap.size := by omega
     rw [ZaA _ _ _ _ k this]
     show ((w.alloc (.cells R0.toArray ZbR)).drew.setCells w.heap.size (i * 2) [u0, u1]).heap[k]? = _
     rw [ZaA _ _ _ _ k this]
     exact RowKit.Below.heap_alloc w _ k hk
    ·rw [hh]
     have e1 : C1.take ((i + 1) * 2) = cs.take (i * 2) ++ [u0, u1] := by
      refine Zop (B := R0.drop (i * 2 + [u0, u1].length)) ?_ (by simp; omega)
      rw [hC1]
      have : R0.take (i * 2) = cs.take (i * 2) := Zop hR0 (by simp; omega)
      rw [this]
     rw [e1]
    ·simp only [List.length_append, List.length_take, List.length_drop, List.length_cons, List.length_nil, hdl, hcsl, hC1l]; omega
theorem ZLE {x : Ctx} {m : Mem} {w : World} (hm : MemOk x m w) {h : Nat} {g : Stg} {s : SI} (hg : nth m.stgs h = some g) (hs : nth x.S h = some s) (hr : g.r = Zb1) (hT : g.T = ZbR)
  {l : List Zb1.den} (hl : HEq g.l l) {i : Nat} (hi : i < l.length) :
  Calls Tryz.prog 297 #[tipVal s, .int .i64 i, .int .i64 ((i : Int) + 1)] w fun e w' => Made w w' e s x (delX l i) := by
 have ho := hm.stg h g s hg hs
 obtain ⟨r, T, gl, gv, gf, gff, glit, gub⟩ := g
 simp only at hr hT
 subst hr; subst hT
 have hl := eq_of_heq hl
 simp only at hl
 subst hl
 have hmax : maxLen = 9223372036854775807 := rfl
 have hn := ho.n
 simp only at hn
 have hil := ZLF gl i hi
 cases hb : s.blk with
 | none =>
  have h0 := ho.nil hb
  omega
 | some pc =>
  obtain ⟨p, cap⟩ := pc
  obtain ⟨C, c1, c2, c3, c4, _⟩ := ho.row p cap hb
  obtain ⟨hrows, _, _, _⟩ := RowsOk.of_tip ho c1 hb
  simp only [wid2] at c2 hrows
  simp only at c1
  have ht : tipVal s = .slice (some ⟨p, 0, none⟩) gl.length cap := by simp [tipVal, hb, hn]
  rw [ht]
  have hcell : ∀ j, w.cell? ⟨p, j, none⟩ = C[j]? := fun j => Zae c1 j
  obtain ⟨cs, hcs⟩ : ∃ cs, cs = C.take (gl.length * 2) := ⟨_, rfl⟩
  rw [← hcs] at hrows
  have hcsl : cs.length = gl.length * 2 := hrows.len
  have h1c : ∀ v ∈ cs, v.oneCell' = true := hrows.one (by decide)
  have h1z : ∀ v ∈ [Value.int .u16 0, Value.int .u8 0], v.oneCell' = true := by simp [Value.oneCell']
  have hcsc : ∀ j v, cs[j]? = some v → w.cell? ⟨p, j, none⟩ = some v := fun j v hj => by
   rw [hcell]
   rw [hcs, List.getElem?_take] at hj
   split at hj
   ·exact hj
   ·simp at hj
  refine (ZPy p gl.length cap i cs (.int .u16 0) (.int .u8 0) w hi (by omega) (by rw [hmax] at c4; omega) hcsl ZJf (by simp [Builtin.zeroCells, Value.cells]; rfl) h1z hcsc (fun j _ => Zer c1 j) h1c).mono ?_
  rintro e w' ⟨rfl, rfl⟩
  have hdl : (cs.drop ((i + 1) * 2)).length = (gl.length - (i + 1)) * 2 := by rw [List.length_drop, hcsl]; omega
  have hh1 := Za5 (w := w.drew) (b := p) (o := i * 2) (vs := cs.drop ((i + 1) * 2)) c1 (by rw [hdl]; omega) (fun v hv => h1c v (List.mem_of_mem_drop hv))
  obtain ⟨C1, hC1⟩ : ∃ C1, C1 = C.take (i * 2) ++ cs.drop ((i + 1) * 2) ++ C.drop (i * 2 + (cs.drop ((i + 1) * 2)).length) := ⟨_, rfl⟩
  rw [← hC1] at hh1
  have hC1l : C1.length = C.length := by rw [hC1]; simp only [List.length_append, List.length_take, List.length_drop, hdl]; omega
  have hh := Za5 (w := w.drew.setCells p (i * 2) (cs.drop ((i + 1) * 2))) (b := p) (o := (gl.length - 1) * 2) (vs := [.int .u16 0, .int .u8 0]) hh1 (by simp; omega) h1z
  obtain ⟨z1, z2, z3⟩ := ZaQ p [.int .u16 0, .int .u8 0] ((gl.length - 1) * 2) (w.drew.setCells p (i * 2) (cs.drop ((i + 1) * 2)))
  obtain ⟨y1, y2, y3⟩ := ZaQ p (cs.drop ((i + 1) * 2)) (i * 2) w.drew
  refine ⟨z1.trans y1, z2.trans y2, z3.trans y3, by rw [ZaP, ZaP]; exact Nat.le_refl _, fun k hk hkb => ?_, p, cap, _, [.int .u16 0, .int .u8 0] ++ C1.drop ((gl.length - 1) * 2 + [Value.int .u16 0, .int .u8 0].length), .inl ⟨cap, hb⟩, ?_, ?_, by rw [hil]; omega, c4, ZLD hrows i, by rw [hil]⟩
  ·have : k ≠ p := fun e => hkb cap (by rw [e, hb])
   rw [ZaA p _ _ _ k this, ZaA p _ _ _ k this]; rfl
  ·rw [hh]
   have e1 : C1.take ((gl.length - 1) * 2) = cs.take (i * 2) ++ cs.drop ((i + 1) * 2) := by
    refine Zop (B := C.drop (i * 2 + (cs.drop ((i + 1) * 2)).length)) ?_ (by simp; omega)
    rw [hC1, hcs, List.take_take, Nat.min_eq_left (by omega)]
   rw [e1]; simp
  ·simp only [List.length_append, List.length_take, List.length_drop, List.length_cons, List.length_nil, hdl, hcsl, hC1l, c2]; omega
theorem ZQU : Zc Tryz.prog 298 insE := by
 refine ⟨Tryz.call298, fun vs m => ?_, fun vs m q hp hc x w args hm hv => ?_⟩
 ·simp only
  split
  ·split
   ·rename_i g g2 hg hg2
    split
    ·split
     ·intro q hq
      simp only [oinj] at hq; subst hq
      exact Zmv (ZV hg).1 rfl
     ·intro q hq; simp at hq
    ·intro q hq; simp at hq
   ·intro q hq; simp at hq
  ·intro q hq; simp at hq
 ·simp only at hp
  split at hp
  ·rename_i h ver lit i h2 ver2
   split at hp
   ·rename_i g g2 hg hg2
    split at hp
    ·rename_i _ _ _ e e2 he he2 hcond
     split at hp
     ·rename_i c hc1
      simp only [RT.val, oinj] at hp
      subst hp
      simp only [Bool.and_eq_true, Nat.beq_eq, Bool.not_eq_true'] at hcond
      obtain ⟨⟨⟨hf, hT⟩, hT2⟩, hne⟩ := hcond
      have hne : h ≠ h2 := fun e => by rw [e, Nat.beq_refl] at hne; simp at hne
      obtain ⟨hg, hgv⟩ := ZV hg
      obtain ⟨hg2, hgv2⟩ := ZV hg2
      match args, hv with
      | [v, vi, v2], hv =>
       obtain ⟨s, hs, hso, rfl⟩ := ZeA hm.toR hv.1 (by unfold Zbj; rw [hg]; simp [hgv] : Zbj m h ver = some g)
       obtain ⟨s2, hs2, hso2, rfl⟩ := ZeA hm.toR hv.2.2.1 (by unfold Zbj; rw [hg2]; simp [hgv2] : Zbj m h2 ver2 = some g2)
       have hvi : RA x (.int lit .i64 i) vi := hv.2.1
       cases hvi
       simp only [Zhi] at hc
       have hck : (decide (0 ≤ i) && decide (i ≤ ((e.slc.cast g.l).length : Int)) && Nat.ble ((e.slc.cast g.l).length + 1) most) = true := by
        cases hb : (decide (0 ≤ i) && decide (i ≤ ((e.slc.cast g.l).length : Int)) && Nat.ble ((e.slc.cast g.l).length + 1) most) with
        | true => rfl
        | false => rw [hb] at hc; exact absurd rfl hc
       simp only [Bool.and_eq_true, decide_eq_true_eq, Nat.ble_eq] at hck
       obtain ⟨⟨k1, k2⟩, k3⟩ := hck
       have hi : (i.toNat : Int) = i := by omega
       obtain ⟨r2, T2, l2, gv2, gf2, gff2, glit2, gub2⟩ := g2
       cases e2
       simp only [EqR.slc, EqR.cast] at hc1
       simp only at hT2
       subst hc1; subst hT2
       have hn2 : s2.n = 1 := hso2.n
       cases hb2 : s2.blk with
       | none => have := (hso2.nil hb2).1; omega
       | some pc =>
        obtain ⟨pv, cv⟩ := pc
        obtain ⟨Cf, c1, _⟩ := hso2.row pv cv hb2
        obtain ⟨hrows2, _, _, _⟩ := RowsOk.of_tip hso2 c1 hb2
        simp only [List.length_singleton] at hrows2
        obtain ⟨u0, u1, hu⟩ := ZPQ hrows2
        rw [hu] at hrows2
        have hCf : Cf = [u0, u1] ++ Cf.drop (1 * Zb1.wid) := by rw [← hu, List.take_append_drop]
        rw [hCf] at c1
        have hv2 : tipVal s2 = .slice (some ⟨pv, 0, none⟩) 1 cv := by simp [tipVal, hb2, hn2]
        rw [hv2, ← hi]
        have hgr : g.r = Zb1 := R.same_eq he
        have key := ZLm hm hg hs hgr hT (l := e.slc.cast g.l) (by cases g; simp only at hgr; subst hgr; cases e; rfl) (i := i.toNat) (by omega) k3 hrows2 c1 (cv := cv) (fun cap hb => hne (hm.sinj h h2 s s2 pv cap cv hs hs2 hb hb2))
        refine key.mono fun e' w' hd => ?_
        rw [Int.toNat_natCast]
        exact ZH6 hm hg hs hf hgr hT hd
      | [], hv => exact hv.elim
      | [_], hv => exact hv.2.elim
      | [_, _], hv => exact hv.2.2.elim
      | _ :: _ :: _ :: _ :: _, hv => exact hv.2.2.2.elim
     ·simp [RT.val] at hp
    ·simp [RT.val] at hp
   ·simp [RT.val] at hp
  ·simp [RT.val] at hp
theorem ZQ4 : Zc Tryz.prog 297 delE := by
 refine ⟨Tryz.call297, fun vs m => ?_, fun vs m q hp hc x w args hm hv => ?_⟩
 ·simp only
  split
  ·split
   ·rename_i g hg
    split
    ·intro q hq
     simp only [oinj] at hq; subst hq
     exact Zmv (ZV hg).1 rfl
    ·intro q hq; simp at hq
   ·intro q hq; simp at hq
  ·intro q hq; simp at hq
 ·simp only at hp
  split at hp
  ·rename_i h ver lit i lit2 j
   split at hp
   ·rename_i g hg
    split at hp
    ·rename_i _ _ e he hcond
     simp only [RT.val, oinj] at hp
     subst hp
     simp only [Bool.and_eq_true, Nat.beq_eq, Bool.not_eq_true'] at hcond
     obtain ⟨hf, hT⟩ := hcond
     obtain ⟨hg, hgv⟩ := ZV hg
     match args, hv with
     | [v, vi, vj], hv =>
      obtain ⟨s, hs, hso, rfl⟩ := ZeA hm.toR hv.1 (by unfold Zbj; rw [hg]; simp [hgv] : Zbj m h ver = some g)
      have hvi : RA x (.int lit .i64 i) vi := hv.2.1
      have hvj : RA x (.int lit2 .i64 j) vj := hv.2.2.1
      cases hvi; cases hvj
      simp only [Zhi] at hc
      have hck : (decide (0 ≤ i) && decide (i < ((e.slc.cast g.l).length : Int)) && decide (j = i + 1)) = true := by
       cases hb : (decide (0 ≤ i) && decide (i < ((e.slc.cast g.l).length : Int)) && decide (j = i + 1)) with
       | true => rfl
       | false => rw [hb] at hc; exact absurd rfl hc
      simp only [Bool.and_eq_true, decide_eq_true_eq] at hck
      obtain ⟨⟨k1, k2⟩, rfl⟩ := hck
      have hi : (i.toNat : Int) = i := by omega
      rw [← hi]
      have hgr : g.r = Zb1 := R.same_eq he
      have key := ZLE hm hg hs hgr hT (l := e.slc.cast g.l) (by cases g; simp only at hgr; subst hgr; cases e; rfl) (i := i.toNat) (by omega)
      refine key.mono fun e' w' hd => ?_
      rw [Int.toNat_natCast]
      exact ZH6 hm hg hs hf hgr hT hd
     | [], hv => exact hv.elim
     | [_], hv => exact hv.2.elim
     | [_, _], hv => exact hv.2.2.elim
     | _ :: _ :: _ :: _ :: _, hv => exact hv.2.2.2.elim
    ·simp [RT.val] at hp
   ·simp [RT.val] at hp
  ·simp [RT.val] at hp
end
end Go.Proofs.YtghoimllhpjkjaaGreat
open Go.IntKind (u8 u16 i64)
set_option linter.unusedSimpArgs false
open Go Go.S3 Go.Proofs
set_option linter.unusedVariables false
set_option maxRecDepth 100000
namespace Go.Proofs.YtghoimllhpjkjaaGreat
noncomputable section
def Zdf : Entry := .tree (ZN (envX Tryz.prog [] [] 7 8) Tryz.f244)
theorem ZeP : Zc Tryz.prog 244 Zdf := Zaa (P := Tryz.prog) (n := 7) (k := 8) (l := []) (ol := []) trivial Tryz.func244 rfl (by kernel_rfl) Tryz.call244 trivial
abbrev ZLS : List Sh := [Sh.one (R.int u16), Sh.one (R.int u16)]
abbrev ZLT : Rs := Rs.one (Sh.one (R.int i64))
def ZEk (x : Int) (y : Int) : RT (Int) :=
 .br (x != x) (.br (y != y) (.leaf (0)) (.leaf (-1))) (.br (y != y) (.leaf (1)) (.br (decide (x < y)) (.leaf (-1)) (.br (decide (x > y)) (.leaf (1)) (.leaf (0)))))
def uCmp (x : Int) (y : Int) : Int := (ZEk x y).val
def ZNq : Entry := Zk ZLS ZLT (fun _ => none) (fun a => uCmp a.1 a.2)
theorem ZEi : Zc Tryz.prog 186 ZNq :=
 pureQ 127 [(244, Zdf)] [] ZLS ZLT ⟨ZeP, trivial⟩ Tryz.func186 Tryz.call186 trivial (t := fun a => ZEk a.1 a.2) (fun a => by kernel_rfl)
abbrev ZEa : List Sh := [Sh.agg (R.pair (R.int u16) (R.int u8)), Sh.agg (R.pair (R.int u16) (R.int u8))]
abbrev ZEc : Rs := Rs.one (Sh.one (R.int i64))
def ZEb (a : Int × Int) (b : Int × Int) : RT (Int) :=
 .leaf (uCmp a.1 b.1)
def ZmX (a : Int × Int) (b : Int × Int) : Int := (ZEb a b).val
def Zat : Entry := Zk ZEa ZEc (fun _ => none) (fun a => ZmX a.1 a.2)
theorem Zas : Zc Tryz.prog 185 Zat :=
 pureQ 31 [(186, ZNq)] [] ZEa ZEc ⟨ZEi, trivial⟩ Tryz.func185 Tryz.call185 trivial (t := fun a => ZEb a.1 a.2) (fun a => by kernel_rfl)
abbrev Zoj : R := R.pair (R.int u16) (R.int u8)
abbrev Zok : Nat := 106
abbrev Zuw : List Sh := [Sh.one (R.int i64), Sh.one (R.int i64), Sh.one (R.int i64)]
def ZJw : LS := { n := 38, slots := [(0, .tip 0), (1, .code (Sh.one (R.int i64))), (2, .code (Sh.one (R.int i64))), (3, .code (Sh.one (R.int i64))), (10, .code (Sh.one (R.int i64)))], boxes := [], stgs := [⟨R.pair (R.int u16) (R.int u8), 106, false⟩], keep := [0] }
def Zgw (a : QT6) : RT (Option (Go1 (QT6))) :=
 let x1 := Zf (i64.wrap (a.2.1 + a.2.2.2.1)) (List.length a.2.2.2.2.1)
 let x2 := !x1
 let x3 := Zf (i64.wrap (a.1 + a.2.2.2.1)) (List.length a.2.2.2.2.1)
 let x4 := !x3
 let x5 := setI a.2.2.2.2.1 (i64.wrap (a.1 + a.2.2.2.1)) (R.get (R.pair (R.int u16) (R.int u8)) a.2.2.2.2.1 (i64.wrap (a.2.1 + a.2.2.2.1)))
 let x6 := x2 || (x4 || (x4 || Zf (i64.wrap (a.2.1 + a.2.2.2.1)) (List.length x5)))
 let x7 := !x6
 let x8 := x2 || (x4 || x3)
 let x9 := !x8
 let x10 := x2 || x3
 .br (decide (a.2.2.2.1 < a.2.2.1)) (.br (x7 || (x9 || (!x10 || x1))) (.br (x7 || (x9 || x10)) (.br (x7 || x8) (.br (x6) (.leaf (some (Go1.cont (a.1, a.2.1, a.2.2.1, i64.wrap (a.2.2.2.1 + 1), setI x5 (i64.wrap (a.2.1 + a.2.2.2.1)) (R.get (R.pair (R.int u16) (R.int u8)) a.2.2.2.2.1 (i64.wrap (a.1 + a.2.2.2.1))), PUnit.unit)))) (.leaf none)) (.leaf none)) (.leaf none)) (.leaf none)) (.leaf (some (Go1.brk (a.1, a.2.1, a.2.2.1, a.2.2.2.1, a.2.2.2.2.1, PUnit.unit))))
def ZyB : Ora := Zbt false ZJw Zgw (fun a => (a.2.2.1 - a.2.2.2.1).toNat + 1)
theorem ZAX : Za3 (envX Tryz.prog [(185, Zat)] [] 2047 8) (.block 0 (.loop (Zab Tryz.f336.body 0))) ZyB :=
 ZB (ZI (l := [(185, Zat)]) ⟨Zas, trivial⟩ [] 2047 8) (Zp (by kernel_rfl)) (fun a => by kernel_rfl)
def Zsd (s : List (Int × Int)) (a : Int) (b : Int) (n : Int) : RT (Option (List (Int × Int))) :=
 let x1 : QT6 := (a, b, n, 0, Stg.l (ZcO Zoj Zok s), ())
 let x2 := runF false Zgw (fun a_1 => Int.toNat (a_1.2.2.1 - a_1.2.2.2.1) + 1) x1
 .br (okB x2) (.leaf (some (getO (false, x1) x2).2.2.2.2.2.1)) (.leaf none)
def ZPJ (s : List (Int × Int)) (a : Int) (b : Int) (n : Int) : List (Int × Int) := getO [] (Zsd s a b n).val
def ZLP (s : List (Int × Int)) (a : Int) (b : Int) (n : Int) : Bool := okB (Zsd s a b n).val
def ZPI : Entry := stE Zoj Zok 185 Zuw (fun a => some (ZLP a.1 a.2.1 a.2.2.1 a.2.2.2)) (fun a => ZPJ a.1 a.2.1 a.2.2.1 a.2.2.2)
theorem ZJv : Zc Tryz.prog 336 ZPI :=
 ZjP (P := Tryz.prog) (n := 2047) (k := 8) (l := [(185, Zat)]) (ol := [(0, ZyB)]) ⟨Zas, trivial⟩ Tryz.func336 rfl (by kernel_rfl) Tryz.call336 ⟨ZAX, trivial⟩ (r := Zoj) (T := Zok) (g0 := 185) (ts := Zuw) (t := fun a => Zsd a.1 a.2.1 a.2.2.1 a.2.2.2) (fun a => by kernel_rfl)
abbrev ZyH : R := R.pair (R.int u16) (R.int u8)
abbrev ZjJ : Nat := 106
abbrev ZEd : List Sh := [Sh.one (R.int i64), Sh.one (R.int i64)]
def ZNo : LS := { n := 53, slots := [(0, .tip 0), (1, .code (Sh.one (R.int i64))), (2, .code (Sh.one (R.int i64))), (3, .fix (A.clo 185 [])), (8, .code (Sh.one (R.int i64))), (9, .code (Sh.one (R.int i64)))], boxes := [], stgs := [⟨R.pair (R.int u16) (R.int u8), 106, false⟩], keep := [0] }
def Zga (a : QT6) : RT (Option (Go1 (QT6))) :=
 let x1 := !Zf a.2.2.2.1 (List.length a.2.2.2.2.1)
 let x2 := Zf (i64.wrap (a.2.2.2.1 - 1)) (List.length a.2.2.2.2.1)
 let x3 : Int × Int := R.get (R.pair (R.int u16) (R.int u8)) a.2.2.2.2.1 a.2.2.2.1
 let x4 : Int × Int := R.get (R.pair (R.int u16) (R.int u8)) a.2.2.2.2.1 (i64.wrap (a.2.2.2.1 - 1))
 let x5 := !x2
 let x6 := setI a.2.2.2.2.1 a.2.2.2.1 x4
 let x7 := x5 || (x1 || (x1 || Zf (i64.wrap (a.2.2.2.1 - 1)) (List.length x6)))
 let x8 := !x7
 let x9 := x5 || (x1 || Zf a.2.2.2.1 (List.length a.2.2.2.2.1))
 let x10 := !x9
 let x11 := x5 || Zf a.2.2.2.1 (List.length a.2.2.2.2.1)
 .br (!decide (a.2.2.2.1 > a.1) || (x1 || x2)) (.br (!decide (a.2.2.2.1 > a.1) || Zf a.2.2.2.1 (List.length a.2.2.2.2.1)) (.br (decide (a.2.2.2.1 > a.1) && decide (ZmX x3 x4 < 0)) (.br (x8 || (x10 || (!x11 || x2))) (.br (x8 || (x10 || x11)) (.br (x8 || x9) (.br (x7) (.leaf (some (Go1.cont (a.1, a.2.1, a.2.2.1, i64.wrap (a.2.2.2.1 - 1), setI x6 (i64.wrap (a.2.2.2.1 - 1)) x3, PUnit.unit)))) (.leaf none)) (.leaf none)) (.leaf none)) (.leaf none)) (.leaf (some (Go1.brk (a.1, a.2.1, a.2.2.1, a.2.2.2.1, a.2.2.2.2.1, PUnit.unit))))) (.leaf none)) (.leaf none)
def Zoo : Ora := Zbt false ZNo Zga (fun a => (a.2.2.2.1 - a.1).toNat + 1)
theorem Zsj : Za3 (envX Tryz.prog [(185, Zat)] [] 1023 8) (.block 2 (.loop (Zab Tryz.f292.body 2))) Zoo :=
 ZB (ZI (l := [(185, Zat)]) ⟨Zas, trivial⟩ [] 1023 8) (Zp (by kernel_rfl)) (fun a => by kernel_rfl)
def ZNn : LS := { n := 53, slots := [(0, .tip 0), (1, .code (Sh.one (R.int i64))), (2, .code (Sh.one (R.int i64))), (3, .fix (A.clo 185 [])), (8, .code (Sh.one (R.int i64)))], boxes := [], stgs := [⟨R.pair (R.int u16) (R.int u8), 106, false⟩], keep := [0] }
def ZjI (a : QT9) : RT (Option (Go1 (QT9))) :=
 let x1 : QT6 := (a.1, a.2.1, a.2.2.1, a.2.2.1, a.2.2.2.1, ())
 let x2 := runF false Zga (fun a_1 => Int.toNat (a_1.2.2.2.1 - a_1.1) + 1) x1
 let x3 : QT6 := (getO (false, x1) x2).2
 let x4 := x3.2
 let x5 := x4.2
 .br (decide (a.2.2.1 < a.2.1)) (.br (okB x2) (.leaf (some (Go1.cont (x3.1, x4.1, i64.wrap (x5.1 + 1), x5.2.2.1, PUnit.unit)))) (.leaf none)) (.leaf (some (Go1.brk (a.1, a.2.1, a.2.2.1, a.2.2.2.1, PUnit.unit))))
def ZEg : Ora := Zbt false ZNn ZjI (fun a => (a.2.1 - a.2.2.1).toNat + 1)
theorem ZEf : Za3 (envX Tryz.prog [(185, Zat)] [(2, Zoo)] 1023 8) (.block 0 (.loop (Zab Tryz.f292.body 0))) ZEg :=
 ZB (ZI (l := [(185, Zat)]) ⟨Zas, trivial⟩ [(2, Zoo)] 1023 8) (Zmi (by kernel_rfl) (by kernel_rfl) ⟨Zsj, trivial⟩) (fun a => by kernel_rfl)
def ZEe (s : List (Int × Int)) (a : Int) (b : Int) : RT (Option (List (Int × Int))) :=
 let x1 : QT9 := (a, b, i64.wrap (a + 1), Stg.l (ZcO ZyH ZjJ s), ())
 let x2 := runF false ZjI (fun a_1 => Int.toNat (a_1.2.1 - a_1.2.2.1) + 1) x1
 .br (okB x2) (.leaf (some (getO (false, x1) x2).2.2.2.2.1)) (.leaf none)
def uIns (s : List (Int × Int)) (a : Int) (b : Int) : List (Int × Int) := getO [] (ZEe s a b).val
def ZPN (s : List (Int × Int)) (a : Int) (b : Int) : Bool := okB (ZEe s a b).val
def uInsE : Entry := stE ZyH ZjJ 185 ZEd (fun a => some (ZPN a.1 a.2.1 a.2.2)) (fun a => uIns a.1 a.2.1 a.2.2)
theorem ZNm : Zc Tryz.prog 292 uInsE :=
 ZjP (P := Tryz.prog) (n := 1023) (k := 8) (l := [(185, Zat)]) (ol := [(2, Zoo), (0, ZEg)]) ⟨Zas, trivial⟩ Tryz.func292 rfl (by kernel_rfl) Tryz.call292 ⟨Zsj, ZEf, trivial⟩ (r := ZyH) (T := ZjJ) (g0 := 185) (ts := ZEd) (t := fun a => ZEe a.1 a.2.1 a.2.2) (fun a => by kernel_rfl)
end
end Go.Proofs.YtghoimllhpjkjaaGreat
set_option linter.unusedVariables false
set_option linter.unusedSimpArgs false
open Go.S3
namespace Go.Proofs.Cells
theorem Zmz {r : R} (X : List r.den) (x : r.den) (Y : List r.den) (i : Int) (h : i = X.length) : R.get r (X ++ x :: Y) i = x := by
 subst h; simp [R.get, List.getD_eq_getElem?_getD]
theorem Zow {α : Type} (X : List α) (x y : α) (Y : List α) (i : Int) (h : i = X.length) : setI (X ++ x :: Y) i y = X ++ y :: Y := by
 subst h; simp [setI]
theorem ZyM {α : Type} (X : List α) (p q : α) (M Y : List α) (i j : Int) (hi : i = X.length) (hj : j = X.length + 1 + M.length) :
  setI (setI (X ++ p :: (M ++ q :: Y)) i q) j p = X ++ q :: (M ++ p :: Y) := by
 rw [Zow X p q _ i hi]
 have e : X ++ q :: (M ++ q :: Y) = (X ++ q :: M) ++ q :: Y := by simp
 rw [e, Zow (X ++ q :: M) q p Y j (by simp; omega)]; simp
theorem Zsl {α : Type} (X : List α) (p q : α) (M Y : List α) (i j : Int) (hi : i = X.length) (hj : j = X.length + 1 + M.length) :
  setI (setI (X ++ p :: (M ++ q :: Y)) j p) i q = X ++ q :: (M ++ p :: Y) := by
 have e : X ++ p :: (M ++ q :: Y) = (X ++ p :: M) ++ q :: Y := by simp
 rw [e, Zow (X ++ p :: M) q p Y j (by simp; omega)]
 have e : (X ++ p :: M) ++ p :: Y = X ++ p :: (M ++ p :: Y) := by simp
 rw [e, Zow X p q _ i hi]
theorem Zyg (x : Cell) : ∀ (P Q : List Cell), (∀ y ∈ P, y.1 ≤ x.1) → (∀ y ∈ Q, x.1 < y.1) → ins x (P ++ Q) = P ++ x :: Q
 | [], [], _, _ => rfl
 | [], q :: Q, _, h => by simp [ins, h q (by simp)]
 | p :: P, Q, h1, h2 => by
  have := h1 p (by simp)
  simp only [List.cons_append, ins]
  rw [if_neg (by omega), Zyg x P Q (fun y hy => h1 y (by simp [hy])) h2]
theorem Zbz {α : Type} (l : List α) (n : Nat) (h : n ≤ l.length) : ∃ a b, l = a ++ b ∧ a.length = n := ⟨l.take n, l.drop n, (List.take_append_drop n l).symm, by simp; omega⟩
end Go.Proofs.Cells
open Go.IntKind (u8 u16 i64)
open Go Go.S3 Go.Proofs Go.Proofs.Cells
set_option linter.unusedVariables false
set_option linter.unusedSimpArgs false
set_option maxRecDepth 100000
namespace Go.Proofs.YtghoimllhpjkjaaGreat
noncomputable section
theorem Zi4 (a b : Cell) : decide (ZmX a b < 0) = decide (a.1 < b.1) := by
 simp only [ZmX, ZEb, uCmp, ZEk, RT.val, bne_self_eq_false, cond_false]
 by_cases h : a.1 < b.1
 ·simp [h]
 ·by_cases h2 : a.1 > b.1 <;> simp [h, h2]
theorem Zsi (a b : Cell) : (!decide (ZmX a b < 0)) = decide (b.1 ≤ a.1) := by
 rw [Zi4]; by_cases h : a.1 < b.1 <;> simp [h] <;> omega
theorem ml : (maxLen : Int) ≤ 9223372036854775807 := by decide
abbrev CR : R := R.pair (R.int u16) (R.int u8)
theorem ZoB {α : Type} (X : List α) (p : α) (Y : List α) (i : Int) (h : i = X.length) : Zf i (X ++ p :: Y).length = true := ZaH.2 (by subst h; simp; omega)
theorem Zi6 {α : Type} (X : List α) (p q : α) (M Y : List α) (j : Int) (h : j = X.length + 1 + M.length) : Zf j (X ++ p :: (M ++ q :: Y)).length = true := ZaH.2 (by subst h; simp; omega)
theorem Zjy (X : List Cell) (p q : Cell) (M Y : List Cell) (j : Int) (h : j = X.length + 1 + M.length) : R.get CR (X ++ p :: (M ++ q :: Y)) j = q := by
 have e : X ++ p :: (M ++ q :: Y) = (X ++ p :: M) ++ q :: Y := by simp
 rw [e]; exact Zmz (r := CR) _ _ _ _ (by simp; omega)
theorem Zmn {α : Type} (l : List α) (i : Int) (x : α) : (setI l i x).length = l.length := by simp [setI]
theorem ZJE (X U M V Y : List Cell) (h : V.length = U.length) (hm : ((X ++ U ++ M ++ V ++ Y).length : Int) ≤ maxLen) :
  (Zsd (X ++ U ++ M ++ V ++ Y) X.length (X.length + U.length + M.length) U.length).val = some (X ++ V ++ M ++ U ++ Y) := by
 have hml := ml
 simp only [List.length_append] at hm
 obtain ⟨r, hr, hR⟩ := ZZ (fl := false) (t := Zgw) (fuel := fun a => Int.toNat (a.2.2.1 - a.2.2.2.1) + 1)
  (I := fun a => ∃ i : Nat, i ≤ U.length ∧ a = ((X.length : Int), (X.length : Int) + U.length + M.length, (U.length : Int), (i : Int), X ++ V.take i ++ U.drop i ++ M ++ U.take i ++ V.drop i ++ Y, ()))
  (m := fun a => Int.toNat (a.2.2.1 - a.2.2.2.1)) (R := fun r => r.2.2.2.2.2.1 = X ++ V ++ M ++ U ++ Y)
  (fun a hi => by
   obtain ⟨i, hi, rfl⟩ := hi
   by_cases hlt : i < U.length
   ·left
    obtain ⟨p, hp⟩ : ∃ p, U.drop i = p :: U.drop (i + 1) := ⟨U[i], by rw [List.drop_eq_getElem_cons hlt]⟩
    obtain ⟨q, hq⟩ : ∃ q, V.drop i = q :: V.drop (i + 1) := ⟨V[i]'(by omega), by rw [List.drop_eq_getElem_cons (by omega)]⟩
    have hp' : U.take (i + 1) = U.take i ++ [p] := by
     rw [List.take_add_one]; congr 1
     have := congrArg List.head? hp; simp [List.head?_drop] at this; rw [this]; rfl
    have hq' : V.take (i + 1) = V.take i ++ [q] := by
     rw [List.take_add_one]; congr 1
     have := congrArg List.head? hq; simp [List.head?_drop] at this; rw [this]; rfl
    have e0 : X ++ V.take i ++ U.drop i ++ M ++ U.take i ++ V.drop i ++ Y = (X ++ V.take i) ++ p :: ((U.drop (i + 1) ++ M ++ U.take i) ++ q :: (V.drop (i + 1) ++ Y)) := by
     rw [hp, hq]; simp
    have e1 : X ++ V.take (i + 1) ++ U.drop (i + 1) ++ M ++ U.take (i + 1) ++ V.drop (i + 1) ++ Y = (X ++ V.take i) ++ q :: ((U.drop (i + 1) ++ M ++ U.take i) ++ p :: (V.drop (i + 1) ++ Y)) := by
     rw [hp', hq']; simp
    have l1 : (V.take i).length = i := by simp; omega
    have l2 : (U.drop (i + 1) ++ M ++ U.take i).length + 1 = U.length + M.length := by simp; omega
    have a1 : ((X.length : Int) + i) = (X ++ V.take i).length := by rw [List.length_append, l1]; omega
    have a2 : ((X.length : Int) + U.length + M.length + i) = (X ++ V.take i).length + 1 + (U.drop (i + 1) ++ M ++ U.take i).length := by rw [List.length_append, l1]; omega
    refine ⟨_, ?_, ⟨i + 1, hlt, rfl⟩, by simp; omega⟩
    rw [e0, e1]
    have w1 : IntKind.wrap .i64 ((X.length : Int) + i) = (X ++ V.take i).length := by rw [wrap_i64 _ (by omega) (by omega), a1]
    have w2 : IntKind.wrap .i64 ((X.length : Int) + U.length + M.length + i) = (X ++ V.take i).length + 1 + (U.drop (i + 1) ++ M ++ U.take i).length := by rw [wrap_i64 _ (by omega) (by omega), a2]
    have w3 : IntKind.wrap .i64 ((i : Int) + 1) = ((i + 1 : Nat) : Int) := by rw [wrap_i64 _ (by omega) (by omega)]; simp
    have d1 : decide ((i : Int) < (U.length : Int)) = true := by simpa using hlt
    have g1 : R.get CR ((X ++ V.take i) ++ p :: ((U.drop (i + 1) ++ M ++ U.take i) ++ q :: (V.drop (i + 1) ++ Y))) ((X ++ V.take i).length : Int) = p := Zmz (r := CR) _ _ _ _ rfl
    have g2 := Zjy (X ++ V.take i) p q (U.drop (i + 1) ++ M ++ U.take i) (V.drop (i + 1) ++ Y) _ rfl
    have r1 := ZoB (X ++ V.take i) p ((U.drop (i + 1) ++ M ++ U.take i) ++ q :: (V.drop (i + 1) ++ Y)) _ rfl
    have r2 := Zi6 (X ++ V.take i) p q (U.drop (i + 1) ++ M ++ U.take i) (V.drop (i + 1) ++ Y) _ rfl
    have s1 := ZyM (X ++ V.take i) p q (U.drop (i + 1) ++ M ++ U.take i) (V.drop (i + 1) ++ Y) _ _ rfl rfl
    simp only [Zgw, RT.val, w1, w2, w3, d1, g1, g2, r1, r2, s1, Zmn, cond_true, Bool.not_true, Bool.or_true, Bool.false_or, Bool.or_false, cond_false]
   ·right; left
    have : i = U.length := by omega
    subst this
    refine ⟨((X.length : Int), (X.length : Int) + U.length + M.length, (U.length : Int), (U.length : Int), X ++ V.take U.length ++ U.drop U.length ++ M ++ U.take U.length ++ V.drop U.length ++ Y, ()), ?_, ?_⟩
    ·have d1 : decide ((U.length : Int) < (U.length : Int)) = false := by simp
     simp only [Zgw, RT.val, d1, cond_false]
    ·have e1 : V.take U.length = V := List.take_of_length_le (by omega)
     have e2 : V.drop U.length = [] := List.drop_eq_nil_of_le (by omega)
     simp [e1, e2])
  ((X.length : Int), (X.length : Int) + U.length + M.length, (U.length : Int), 0, X ++ U ++ M ++ V ++ Y, ()) ⟨0, Nat.zero_le _, by simp⟩ (Nat.lt_succ_self _)
 simp only [Zsd, ZcO, RT.val, hr, okB, getO, cond_true, hR]
def ZuD (l : List Cell) (a b n : Nat) : List Cell := l.take a ++ (l.drop b).take n ++ (l.drop (a + n)).take (b - a - n) ++ (l.drop a).take n ++ l.drop (b + n)
theorem ZQm {α : Type} (l : List α) (a b n : Nat) (h1 : a + n ≤ b) (h2 : b + n ≤ l.length) : ∃ X U M V Y : List α, l = X ++ U ++ M ++ V ++ Y ∧ X.length = a ∧ U.length = n ∧ M.length = b - a - n ∧ V.length = n := by
 obtain ⟨X, l1, rfl, hX⟩ := Zbz l a (by omega)
 simp only [List.length_append] at h2
 obtain ⟨U, l2, rfl, hU⟩ := Zbz l1 n (by omega)
 simp only [List.length_append] at h2
 obtain ⟨M, l3, rfl, hM⟩ := Zbz l2 (b - a - n) (by omega)
 simp only [List.length_append] at h2
 obtain ⟨V, Y, rfl, hV⟩ := Zbz l3 n (by omega)
 exact ⟨X, U, M, V, Y, by simp, hX, hU, hM, hV⟩
theorem ZyN (X U M V Y : List Cell) (h : V.length = U.length) : ZuD (X ++ U ++ M ++ V ++ Y) X.length (X.length + U.length + M.length) U.length = X ++ V ++ M ++ U ++ Y := by
 unfold ZuD
 have e1 : (X ++ U ++ M ++ V ++ Y).take X.length = X := by simp [List.append_assoc]
 have e2 : ((X ++ U ++ M ++ V ++ Y).drop (X.length + U.length + M.length)).take U.length = V := by
  have : X ++ U ++ M ++ V ++ Y = (X ++ U ++ M) ++ (V ++ Y) := by simp
  rw [this, List.drop_left' (by simp; omega), ← h, List.take_left' rfl]
 have e3 : ((X ++ U ++ M ++ V ++ Y).drop (X.length + U.length)).take (X.length + U.length + M.length - X.length - U.length) = M := by
  have : X ++ U ++ M ++ V ++ Y = (X ++ U) ++ (M ++ (V ++ Y)) := by simp
  rw [this, List.drop_left' (by simp), List.take_left' (by omega)]
 have e4 : ((X ++ U ++ M ++ V ++ Y).drop X.length).take U.length = U := by
  have : X ++ U ++ M ++ V ++ Y = X ++ (U ++ (M ++ (V ++ Y))) := by simp
  rw [this, List.drop_left' rfl, List.take_left' rfl]
 have e5 : (X ++ U ++ M ++ V ++ Y).drop (X.length + U.length + M.length + U.length) = Y := by
  exact List.drop_left' (by simp; omega)
 rw [e1, e2, e3, e4, e5]
def Zf0 (l : List Cell) (a b n : Int) : Bool := decide (0 ≤ a) && decide (0 ≤ n) && decide (a + n ≤ b) && decide (b + n ≤ l.length)
def Zol : Entry := stE Zoj Zok 185 Zuw (fun a => some (Zf0 a.1 a.2.1 a.2.2.1 a.2.2.2)) (fun a => ZuD a.1 a.2.1.toNat a.2.2.1.toNat a.2.2.2.toNat)
theorem ZeT {P : Program} {f : FuncId} {r : R} {T : TypeId} {g0 : FuncId} {ts : List Sh} {pre pre' : List r.den × HL ts → Option Bool} {F G : List r.den × HL ts → List r.den} (h : Zc P f (stE r T g0 ts pre F))
  (hp : ∀ a, (R.sl r).ok a.1 → okHL ts a.2 → pre' a ≠ some false → pre a ≠ some false ∧ F a = G a) : Zc P f (stE r T g0 ts pre' G) := Zc.st_congr h hp
theorem Zse : Zc Tryz.prog 336 Zol := ZeT ZJv fun a h1 h2 hp => by
 obtain ⟨l, a, b, n⟩ := a
 have hp : Zf0 l a b n = true := by cases h : Zf0 l a b n <;> simp_all
 simp only [Zf0, Bool.and_eq_true, decide_eq_true_eq] at hp
 obtain ⟨⟨⟨p1, p2⟩, p3⟩, p4⟩ := hp
 have hlen : l.length ≤ maxLen := h1.1
 obtain ⟨a, rfl⟩ := Int.eq_ofNat_of_zero_le p1
 obtain ⟨n, rfl⟩ := Int.eq_ofNat_of_zero_le p2
 obtain ⟨b, rfl⟩ := Int.eq_ofNat_of_zero_le (show (0 : Int) ≤ b by omega)
 obtain ⟨X, U, M, V, Y, rfl, rfl, rfl, hM, hV⟩ := ZQm l a b n (by omega) (by omega)
 have hb : b = X.length + U.length + M.length := by omega
 subst hb
 have := ZJE X U M V Y hV (by exact_mod_cast hlen)
 simp only [ZLP, ZPJ, Int.toNat_natCast]
 push_cast at this ⊢
 rw [this, ZyN X U M V Y hV]
 simp [okB, getO]
theorem ZIz (X T Rr : List Cell) (x : Cell) (b i : Int) (hT : Srt T) (hm : ((X ++ T ++ x :: Rr).length : Int) ≤ maxLen) :
  ∃ r, runF false Zga (fun a => Int.toNat (a.2.2.2.1 - a.1) + 1) ((X.length : Int), b, i, (X.length : Int) + T.length, X ++ T ++ x :: Rr, ()) = some r ∧ ∃ j, r.2 = ((X.length : Int), b, i, j, X ++ ins x T ++ Rr, ()) := by
 have hml := ml
 simp only [List.length_append, List.length_cons] at hm
 refine ZZ (fl := false) (t := Zga) (fuel := fun a => Int.toNat (a.2.2.2.1 - a.1) + 1)
  (I := fun a => ∃ P Q : List Cell, T = P ++ Q ∧ (∀ y ∈ Q, x.1 < y.1) ∧ a = ((X.length : Int), b, i, (X.length : Int) + P.length, X ++ P ++ x :: (Q ++ Rr), ()))
  (m := fun a => Int.toNat (a.2.2.2.1 - a.1)) (R := fun r => ∃ j, r.2 = ((X.length : Int), b, i, j, X ++ ins x T ++ Rr, ()))
  (fun a hi => ?_) _ ⟨T, [], by simp, by simp, by simp⟩ (Nat.lt_succ_self _)
 obtain ⟨P, Q, hPQ, hQ, rfl⟩ := hi
 have hlen : T.length = P.length + Q.length := by rw [hPQ]; simp
 rcases List.eq_nil_or_concat P with rfl | ⟨P', y, hc⟩
 ·right; left
  refine ⟨((X.length : Int), b, i, (X.length : Int) + (([] : List Cell).length : Int), X ++ ins x T ++ Rr, ()), ?_, _, rfl⟩
  have e : X ++ ins x T ++ Rr = X ++ x :: (Q ++ Rr) := by
   rw [hPQ, List.nil_append, show ins x Q = x :: Q from by have := Zyg x [] Q (by simp) hQ; simpa using this]; simp
  have d : decide ((X.length : Int) + (([] : List Cell).length : Int) > X.length) = false := by simp
  rw [e]
  simp only [Zga, RT.val, d, Bool.not_false, Bool.true_or, cond_true, Bool.false_and, cond_false, List.append_nil]
 ·rw [List.concat_eq_append] at hc
  subst hc
  have hl1 : (P' ++ [y]).length = P'.length + 1 := by simp
  have d : decide ((X.length : Int) + ((P' ++ [y]).length : Int) > X.length) = true := by simp; omega
  have e0 : X ++ (P' ++ [y]) ++ x :: (Q ++ Rr) = (X ++ P') ++ y :: ([] ++ x :: (Q ++ Rr)) := by simp
  have w1 : IntKind.wrap .i64 ((X.length : Int) + ((P' ++ [y]).length : Int) - 1) = (X ++ P').length := by rw [wrap_i64 _ (by simp; omega) (by simp; omega)]; simp; omega
  have w2 : ((X.length : Int) + ((P' ++ [y]).length : Int)) = (X ++ P').length + 1 + (([] : List Cell).length : Int) := by simp; omega
  have g1 : R.get CR ((X ++ P') ++ y :: ([] ++ x :: (Q ++ Rr))) ((X ++ P').length : Int) = y := Zmz (r := CR) _ _ _ _ rfl
  have g2 := Zjy (X ++ P') y x [] (Q ++ Rr) _ rfl
  have r1 := ZoB (X ++ P') y ([] ++ x :: (Q ++ Rr)) _ rfl
  have r2 := Zi6 (X ++ P') y x [] (Q ++ Rr) _ rfl
  have s1 := Zsl (X ++ P') y x [] (Q ++ Rr) _ _ rfl rfl
  by_cases hlt : x.1 < y.1
  ·left
   have u1 : decide (ZmX x y < 0) = true := by rw [Zi4]; simpa using hlt
   refine ⟨((X.length : Int), b, i, (X.length : Int) + (P'.length : Int), X ++ P' ++ x :: ((y :: Q) ++ Rr), ()), ?_, ⟨P', y :: Q, by rw [hPQ]; simp, by simpa using ⟨hlt, fun a b h => hQ (a, b) h⟩, rfl⟩, by simp; omega⟩
   have e9 : X ++ P' ++ x :: ((y :: Q) ++ Rr) = (X ++ P') ++ x :: ([] ++ y :: (Q ++ Rr)) := by simp
   have w3 : (X.length : Int) + (P'.length : Int) = ((X ++ P').length : Int) := by simp
   rw [e0, e9, w3]
   rw [w2] at w1 d ⊢
   simp only [Zga, RT.val, w1, d, g1, g2, r1, r2, s1, u1, Zmn, cond_true, Bool.not_true, Bool.or_true, Bool.false_or, Bool.or_false, cond_false, Bool.and_true, Bool.true_and]
  ·right; left
   have u1 : decide (ZmX x y < 0) = false := by rw [Zi4]; simpa using hlt
   refine ⟨((X.length : Int), b, i, (X.length : Int) + ((P' ++ [y]).length : Int), X ++ (P' ++ [y]) ++ x :: (Q ++ Rr), ()), ?_, (X.length : Int) + ((P' ++ [y]).length : Int), ?_⟩
   ·rw [e0]
    rw [w2] at w1 d ⊢
    simp only [Zga, RT.val, w1, d, g1, g2, r1, r2, s1, u1, Zmn, cond_true, Bool.not_true, Bool.or_true, Bool.false_or, Bool.or_false, cond_false, Bool.and_true, Bool.true_and, Bool.and_false]
   ·have hsrt := hT
    rw [hPQ] at hsrt
    have hP : ∀ z ∈ P' ++ [y], z.1 ≤ x.1 := fun z hz => by
     rcases List.mem_append.1 hz with hz | hz
     ·have := (List.pairwise_append.1 (List.pairwise_append.1 hsrt).1).2.2 z hz y (by simp); omega
     ·simp at hz; subst hz; omega
    rw [hPQ, Zyg x (P' ++ [y]) Q hP hQ]; simp
theorem ZPf (X L Y : List Cell) (hm : (X ++ L ++ Y).length + 1 ≤ maxLen) :
  (ZEe (X ++ L ++ Y) X.length (X.length + L.length)).val = some (X ++ isort L ++ Y) := by
 have hml := ml
 have hmi : ((X ++ L ++ Y).length : Int) + 1 ≤ maxLen := by exact_mod_cast hm
 simp only [List.length_append] at hmi
 have w0 : IntKind.wrap .i64 ((X.length : Int) + 1) = (X.length : Int) + ((1 : Nat) : Int) := by rw [wrap_i64 _ (by omega) (by omega)]; simp
 obtain ⟨r, hr, hR⟩ := ZZ (fl := false) (t := ZjI) (fuel := fun a => Int.toNat (a.2.1 - a.2.2.1) + 1)
  (I := fun a => ∃ k : Nat, (k ≤ L.length ∨ L.length = 0 ∧ k = 1) ∧ 1 ≤ k ∧ a = ((X.length : Int), (X.length : Int) + L.length, (X.length : Int) + (k : Int), X ++ isort (L.take k) ++ L.drop k ++ Y, ()))
  (m := fun a => Int.toNat (a.2.1 - a.2.2.1)) (R := fun r => r.2.2.2.2.1 = X ++ isort L ++ Y)
  (fun a hi => by
   obtain ⟨k, hk, hk1, rfl⟩ := hi
   by_cases hlt : k < L.length
   ·left
    obtain ⟨x, hx⟩ : ∃ x, L.drop k = x :: L.drop (k + 1) := ⟨L[k], by rw [List.drop_eq_getElem_cons hlt]⟩
    have hx' : L.take (k + 1) = L.take k ++ [x] := by
     rw [List.take_add_one]; congr 1
     have := congrArg List.head? hx; simp [List.head?_drop] at this; rw [this]; rfl
    have hil : ∀ l : List Cell, (isort l).length = l.length := fun l => by
     have : ∀ (l acc : List Cell), (l.foldl (fun a x => ins x a) acc).length = acc.length + l.length := by
      intro l
      induction l with
      | nil => intro acc; simp
      | cons a l ih =>
       intro acc; rw [List.foldl_cons, ih]
       have : (ins a acc).length = acc.length + 1 := by
        induction acc with
        | nil => rfl
        | cons b acc ih2 => simp only [ins]; split <;> simp [ih2]
       simp; omega
     simp [isort, this]
    have l1 : (isort (L.take k)).length = k := by rw [hil]; simp; omega
    obtain ⟨q, hq, j, hj⟩ := ZIz X (isort (L.take k)) (L.drop (k + 1) ++ Y) x ((X.length : Int) + L.length) ((X.length : Int) + k) (Zbu _) (by
     simp only [List.length_append, List.length_cons, l1, List.length_drop]; omega)
    have e0 : X ++ isort (L.take k) ++ L.drop k ++ Y = X ++ isort (L.take k) ++ x :: (L.drop (k + 1) ++ Y) := by rw [hx]; simp
    rw [l1] at hq
    refine ⟨((X.length : Int), (X.length : Int) + L.length, (X.length : Int) + ((k + 1 : Nat) : Int), X ++ isort (L.take (k + 1)) ++ L.drop (k + 1) ++ Y, ()), ?_, ⟨k + 1, .inl hlt, by omega, rfl⟩, by simp; omega⟩
    have d : decide ((X.length : Int) + (k : Int) < (X.length : Int) + L.length) = true := by simp; omega
    have w1 : IntKind.wrap .i64 ((X.length : Int) + (k : Int) + 1) = (X.length : Int) + ((k + 1 : Nat) : Int) := by rw [wrap_i64 _ (by omega) (by omega)]; push_cast; omega
    have e1 : X ++ ins x (isort (L.take k)) ++ (L.drop (k + 1) ++ Y) = X ++ isort (L.take (k + 1)) ++ L.drop (k + 1) ++ Y := by rw [hx', ZDz]; simp
    rw [e0]
    simp only [ZjI, RT.val, d, hq, okB, getO, cond_true, hj, w1, e1]
   ·right; left
    have d : decide ((X.length : Int) + (k : Int) < (X.length : Int) + L.length) = false := by simp; omega
    refine ⟨((X.length : Int), (X.length : Int) + L.length, (X.length : Int) + (k : Int), X ++ isort (L.take k) ++ L.drop k ++ Y, ()), ?_, ?_⟩
    ·simp only [ZjI, RT.val, d, cond_false]
    ·have e1 : L.take k = L := List.take_of_length_le (by omega)
     have e2 : L.drop k = [] := List.drop_eq_nil_of_le (by omega)
     simp [e1, e2])
  ((X.length : Int), (X.length : Int) + L.length, (X.length : Int) + ((1 : Nat) : Int), X ++ L ++ Y, ()) ⟨1, by omega, by omega, by
   cases L with
   | nil => simp [isort]
   | cons a l => simp [isort, ins]⟩ (Nat.lt_succ_self _)
 simp only [ZEe, ZcO, RT.val, w0, hr, okB, getO, cond_true, hR]
def Zc1 (l : List Cell) (a b : Nat) : List Cell := l.take a ++ isort ((l.drop a).take (b - a)) ++ l.drop b
theorem Zos (X L Y : List Cell) : Zc1 (X ++ L ++ Y) X.length (X.length + L.length) = X ++ isort L ++ Y := by
 unfold Zc1
 have e1 : (X ++ L ++ Y).take X.length = X := by simp [List.append_assoc]
 have e2 : ((X ++ L ++ Y).drop X.length).take (X.length + L.length - X.length) = L := by
  rw [List.append_assoc, List.drop_left' rfl, List.take_left' (by omega)]
 have e3 : (X ++ L ++ Y).drop (X.length + L.length) = Y := List.drop_left' (by simp)
 rw [e1, e2, e3]
theorem ZMB {α : Type} (l : List α) (a b : Nat) (h1 : a ≤ b) (h2 : b ≤ l.length) : ∃ X L Y : List α, l = X ++ L ++ Y ∧ X.length = a ∧ X.length + L.length = b := by
 obtain ⟨X, l1, rfl, hX⟩ := Zbz l a (by omega)
 simp only [List.length_append] at h2
 obtain ⟨L, Y, rfl, hL⟩ := Zbz l1 (b - a) (by omega)
 exact ⟨X, L, Y, by simp, hX, by omega⟩
def ZeY (l : List Cell) (a b : Int) : Bool := decide (0 ≤ a) && decide (a ≤ b) && decide (b ≤ l.length) && Nat.ble l.length most
def Ziu : Entry := stE ZyH ZjJ 185 ZEd (fun a => some (ZeY a.1 a.2.1 a.2.2)) (fun a => Zc1 a.1 a.2.1.toNat a.2.2.toNat)
theorem Zi5 : Zc Tryz.prog 292 Ziu := ZeT ZNm fun a h1 h2 hp => by
 obtain ⟨l, a, b⟩ := a
 have hp : ZeY l a b = true := by cases h : ZeY l a b <;> simp_all
 simp only [ZeY, Bool.and_eq_true, decide_eq_true_eq, Nat.ble_eq] at hp
 obtain ⟨⟨⟨p1, p2⟩, p3⟩, p4⟩ := hp
 obtain ⟨a, rfl⟩ := Int.eq_ofNat_of_zero_le p1
 obtain ⟨b, rfl⟩ := Int.eq_ofNat_of_zero_le (show (0 : Int) ≤ b by omega)
 obtain ⟨X, L, Y, rfl, rfl, rfl⟩ := ZMB l a b (by omega) (by omega)
 have := ZPf X L Y (Nat.le_trans (Nat.add_le_add_right p4 1) (by decide))
 simp only [ZPN, uIns, Int.toNat_natCast]
 push_cast at this ⊢
 rw [this, Zos]
 simp [okB, getO]
end
end Go.Proofs.YtghoimllhpjkjaaGreat
open Go.IntKind (u8 u16 i64)
set_option linter.unusedSimpArgs false
open Go Go.S3 Go.Proofs
set_option linter.unusedVariables false
set_option maxRecDepth 100000
namespace Go.Proofs.YtghoimllhpjkjaaGreat
noncomputable section
abbrev Zm8 : R := R.pair (R.int u16) (R.int u8)
abbrev Zm9 : Nat := 106
abbrev Zsh : List Sh := [Sh.one (R.int i64), Sh.one (R.int i64), Sh.one (R.int i64)]
def ZNl : LS := { n := 58, slots := [(0, .tip 0), (2, .code (Sh.one (R.int i64))), (4, .fix (A.clo 185 [])), (10, .code (Sh.one (R.int i64))), (11, .code (Sh.one (R.int i64)))], boxes := [], stgs := [⟨R.pair (R.int u16) (R.int u8), 106, false⟩], keep := [0] }
def ZhF (a : QT9) : RT (Option (Go1 (QT9))) :=
 let x1 := !decide (a.2.1 > a.2.2.1) || Zf0 a.2.2.2.1 (i64.wrap (a.1 - a.2.1)) a.1 a.2.2.1
 let x2 := i64.wrap (i64.wrap (a.1 + a.2.2.1) - a.2.1)
 .br (a.2.1 != a.2.2.1) (.br (!x1 || (decide (a.2.1 > a.2.2.1) || Zf0 a.2.2.2.1 (i64.wrap (a.1 - a.2.1)) x2 a.2.1)) (.br (x1) (.leaf (some (Go1.cont (a.1, bif decide (a.2.1 > a.2.2.1) then i64.wrap (a.2.1 - a.2.2.1) else a.2.1, bif decide (a.2.1 > a.2.2.1) then a.2.2.1 else i64.wrap (a.2.2.1 - a.2.1), bif decide (a.2.1 > a.2.2.1) then ZuD a.2.2.2.1 (Int.toNat (i64.wrap (a.1 - a.2.1))) (Int.toNat a.1) (Int.toNat a.2.2.1) else ZuD a.2.2.2.1 (Int.toNat (i64.wrap (a.1 - a.2.1))) (Int.toNat x2) (Int.toNat a.2.1), PUnit.unit)))) (.leaf none)) (.leaf none)) (.leaf (some (Go1.brk (a.1, a.2.1, a.2.2.1, a.2.2.2.1, PUnit.unit))))
def ZD9 : Ora := Zbt false ZNl ZhF (fun a => (a.2.1 + a.2.2.1).toNat + 1)
theorem ZD8 : Za3 (envX Tryz.prog [(336, Zol), (185, Zat)] [] 4095 8) (.block 0 (.loop (Zab Tryz.f325.body 0))) ZD9 :=
 ZB (ZI (l := [(336, Zol), (185, Zat)]) ⟨Zse, Zas, trivial⟩ [] 4095 8) (Zp (by kernel_rfl)) (fun a => by kernel_rfl)
def ZD7 (s : List (Int × Int)) (a : Int) (m : Int) (b : Int) : RT (Option (List (Int × Int))) :=
 let x1 : QT9 := (m, i64.wrap (m - a), i64.wrap (b - m), Stg.l (ZcO Zm8 Zm9 s), ())
 let x2 := runF false ZhF (fun a_1 => Int.toNat (a_1.2.1 + a_1.2.2.1) + 1) x1
 let x3 : QT9 := (getO (false, x1) x2).2
 let x4 := x3.2
 let x5 := x4.2.2.1
 let x6 := x3.1
 let x7 := x4.1
 let x8 := i64.wrap (x6 - x7)
 .br (okB x2) (.br (Zf0 x5 x8 x6 x7) (.leaf (some (ZuD x5 (Int.toNat x8) (Int.toNat x6) (Int.toNat x7)))) (.leaf none)) (.leaf none)
def uRot (s : List (Int × Int)) (a : Int) (m : Int) (b : Int) : List (Int × Int) := getO [] (ZD7 s a m b).val
def ZPM (s : List (Int × Int)) (a : Int) (m : Int) (b : Int) : Bool := okB (ZD7 s a m b).val
def uRotE : Entry := stE Zm8 Zm9 185 Zsh (fun a => some (ZPM a.1 a.2.1 a.2.2.1 a.2.2.2)) (fun a => uRot a.1 a.2.1 a.2.2.1 a.2.2.2)
theorem ZNk : Zc Tryz.prog 325 uRotE :=
 ZjP (P := Tryz.prog) (n := 4095) (k := 8) (l := [(336, Zol), (185, Zat)]) (ol := [(0, ZD9)]) ⟨Zse, Zas, trivial⟩ Tryz.func325 rfl (by kernel_rfl) Tryz.call325 ⟨ZD8, trivial⟩ (r := Zm8) (T := Zm9) (g0 := 185) (ts := Zsh) (t := fun a => ZD7 a.1 a.2.1 a.2.2.1 a.2.2.2) (fun a => by kernel_rfl)
end
end Go.Proofs.YtghoimllhpjkjaaGreat
open Go.IntKind (u8 u16 i64)
open Go Go.S3 Go.Proofs Go.Proofs.Cells
set_option linter.unusedVariables false
set_option linter.unusedSimpArgs false
set_option maxRecDepth 100000
namespace Go.Proofs.YtghoimllhpjkjaaGreat
noncomputable section
theorem ZEp (l : List Cell) (a b n : Nat) (h1 : a + n ≤ b) (h2 : b + n ≤ l.length) : Zf0 l a b n = true := by
 simp only [Zf0, Bool.and_eq_true, decide_eq_true_eq]; omega
theorem ZuC (A U M V B : List Cell) (a b n : Nat) (h : V.length = U.length) (ha : a = A.length) (hb : b = A.length + U.length + M.length) (hn : n = U.length) :
  Zf0 (A ++ U ++ M ++ V ++ B) a b n = true ∧ ZuD (A ++ U ++ M ++ V ++ B) a b n = A ++ V ++ M ++ U ++ B := by
 subst ha hb hn
 exact ⟨ZEp _ _ _ _ (by omega) (by simp; omega), ZyN A U M V B h⟩
theorem mst : most = 1073741824 := rfl
theorem ZNy (X U V Y : List Cell) (hU : 0 < U.length) (hV : 0 < V.length) (hm : (X ++ U ++ V ++ Y).length ≤ most) :
  (ZD7 (X ++ U ++ V ++ Y) X.length (X.length + U.length : Nat) (X.length + U.length + V.length : Nat)).val = some (X ++ V ++ U ++ Y) := by
 have hms := mst
 simp only [List.length_append] at hm
 obtain ⟨r, hr, hR⟩ := ZZ (fl := false) (t := ZhF) (fuel := fun a => Int.toNat (a.2.1 + a.2.2.1) + 1)
  (I := fun a => ∃ A U' V' B : List Cell, 0 < U'.length ∧ 0 < V'.length ∧ A.length + U'.length = X.length + U.length ∧ U'.length + V'.length ≤ U.length + V.length ∧ (A ++ U' ++ V' ++ B).length ≤ most ∧ A ++ V' ++ U' ++ B = X ++ V ++ U ++ Y ∧ a = (((X.length + U.length : Nat) : Int), (U'.length : Int), (V'.length : Int), A ++ U' ++ V' ++ B, ()))
  (m := fun a => Int.toNat (a.2.1 + a.2.2.1)) (R := fun r => ∃ A U' V' B : List Cell, 0 < U'.length ∧ V'.length = U'.length ∧ A.length + U'.length = X.length + U.length ∧ (A ++ U' ++ V' ++ B).length ≤ most ∧ A ++ V' ++ U' ++ B = X ++ V ++ U ++ Y ∧ r.2 = (((X.length + U.length : Nat) : Int), (U'.length : Int), (V'.length : Int), A ++ U' ++ V' ++ B, ()))
  (fun a hi => by
   obtain ⟨A, U', V', B, h1, h2, h3, h4, h5, h6, rfl⟩ := hi
   have h5' := h5
   simp only [List.length_append] at h5'
   have w1 : IntKind.wrap .i64 (((X.length + U.length : Nat) : Int) - (U'.length : Int)) = ((A.length : Nat) : Int) := by rw [wrap_i64 _ (by omega) (by omega)]; omega
   by_cases he : U'.length = V'.length
   ·right; left
    refine ⟨_, ?_, A, U', V', B, h1, he.symm, h3, h5, h6, rfl⟩
    have d : (((U'.length : Nat) : Int) != (V'.length : Int)) = false := by simp [he]
    simp only [ZhF, RT.val, d, cond_false]
   ·left
    have d : (((U'.length : Nat) : Int) != (V'.length : Int)) = true := by simp; omega
    by_cases hlt : V'.length < U'.length
    ·obtain ⟨U1, U2, rfl, hl⟩ := Zbz U' V'.length (by omega)
     simp only [List.length_append] at *
     obtain ⟨q1, q2⟩ := ZuC A U1 U2 V' B A.length (X.length + U.length) V'.length (by omega) rfl (by omega) (by omega)
     have e0 : A ++ (U1 ++ U2) ++ V' ++ B = A ++ U1 ++ U2 ++ V' ++ B := by simp
     have g : decide (((U1.length + U2.length : Nat) : Int) > (V'.length : Int)) = true := by simp; omega
     have w2 : IntKind.wrap .i64 (((U1.length + U2.length : Nat) : Int) - (V'.length : Int)) = (U2.length : Int) := by rw [wrap_i64 _ (by omega) (by omega)]; omega
     refine ⟨(((X.length + U.length : Nat) : Int), (U2.length : Int), (V'.length : Int), (A ++ V') ++ U2 ++ U1 ++ B, ()), ?_, ⟨A ++ V', U2, U1, B, by omega, by omega, by simp; omega, by omega, by simp; omega, by rw [← h6]; simp, by rw [hl]⟩, by simp; omega⟩
     rw [e0]
     simp only [ZhF, RT.val, d, cond_true, w1, g, q1, q2, Bool.not_true, Bool.false_or, Bool.true_or, w2, Int.toNat_natCast]
    ·obtain ⟨V1, V2, rfl, hl⟩ := Zbz V' (V'.length - U'.length) (by omega)
     simp only [List.length_append] at *
     obtain ⟨q1, q2⟩ := ZuC A U' V1 V2 B A.length (X.length + U.length + V1.length) U'.length (by omega) rfl (by omega) rfl
     have e0 : A ++ U' ++ (V1 ++ V2) ++ B = A ++ U' ++ V1 ++ V2 ++ B := by simp
     have g : decide (((U'.length : Nat) : Int) > ((V1.length + V2.length : Nat) : Int)) = false := by simp; omega
     have w2 : IntKind.wrap .i64 (((V1.length + V2.length : Nat) : Int) - (U'.length : Int)) = (V1.length : Int) := by rw [wrap_i64 _ (by omega) (by omega)]; omega
     have w3 : IntKind.wrap .i64 (IntKind.wrap .i64 (((X.length + U.length : Nat) : Int) + ((V1.length + V2.length : Nat) : Int)) - (U'.length : Int)) = ((X.length + U.length + V1.length : Nat) : Int) := by
      rw [wrap_i64 (((X.length + U.length : Nat) : Int) + _) (by omega) (by omega), wrap_i64 _ (by omega) (by omega)]; omega
     have hl2 : U'.length = V2.length := by omega
     refine ⟨(((X.length + U.length : Nat) : Int), (U'.length : Int), (V1.length : Int), A ++ V2 ++ V1 ++ U' ++ B, ()), ?_, ⟨A, V2, V1, U' ++ B, by omega, by omega, by omega, by omega, by simp; omega, by rw [← h6]; simp, by rw [hl2]; simp⟩, by simp; omega⟩
     rw [e0]
     simp only [ZhF, RT.val, d, cond_true, w1, g, q1, q2, Bool.not_true, Bool.not_false, Bool.false_or, Bool.true_or, cond_false, w2, w3, Int.toNat_natCast]
     )
  (((X.length + U.length : Nat) : Int), (U.length : Int), (V.length : Int), X ++ U ++ V ++ Y, ()) ⟨X, U, V, Y, hU, hV, rfl, by omega, by simp; omega, rfl, rfl⟩ (Nat.lt_succ_self _)
 obtain ⟨A, U', V', B, h1, h2, h3, h5, h6, hr2⟩ := hR
 have h5' := h5
 simp only [List.length_append] at h5'
 have w0 : IntKind.wrap .i64 (((X.length + U.length : Nat) : Int) - (X.length : Int)) = (U.length : Int) := by rw [wrap_i64 _ (by omega) (by omega)]; omega
 have w0' : IntKind.wrap .i64 (((X.length + U.length + V.length : Nat) : Int) - ((X.length + U.length : Nat) : Int)) = (V.length : Int) := by rw [wrap_i64 _ (by omega) (by omega)]; omega
 have w1 : IntKind.wrap .i64 (((X.length + U.length : Nat) : Int) - (U'.length : Int)) = ((A.length : Nat) : Int) := by rw [wrap_i64 _ (by omega) (by omega)]; omega
 obtain ⟨q1, q2⟩ := ZuC A U' [] V' B A.length (X.length + U.length) U'.length h2 rfl (by simp; omega) rfl
 rw [List.append_nil] at q1 q2
 simp only [ZD7, ZcO, RT.val, w0, w0', hr, okB, getO, cond_true, hr2, w1, q1, q2, Int.toNat_natCast, List.append_nil, h6]
def rotX (l : List Cell) (a m b : Nat) : List Cell := l.take a ++ (l.drop m).take (b - m) ++ (l.drop a).take (m - a) ++ l.drop b
theorem ZEI (X U V Y : List Cell) : rotX (X ++ U ++ V ++ Y) X.length (X.length + U.length) (X.length + U.length + V.length) = X ++ V ++ U ++ Y := by
 unfold rotX
 have e1 : (X ++ U ++ V ++ Y).take X.length = X := by simp [List.append_assoc]
 have e2 : ((X ++ U ++ V ++ Y).drop (X.length + U.length)).take (X.length + U.length + V.length - (X.length + U.length)) = V := by
  have : X ++ U ++ V ++ Y = (X ++ U) ++ (V ++ Y) := by simp
  rw [this, List.drop_left' (by simp), List.take_left' (by omega)]
 have e3 : ((X ++ U ++ V ++ Y).drop X.length).take (X.length + U.length - X.length) = U := by
  have : X ++ U ++ V ++ Y = X ++ (U ++ (V ++ Y)) := by simp
  rw [this, List.drop_left' rfl, List.take_left' (by omega)]
 have e4 : (X ++ U ++ V ++ Y).drop (X.length + U.length + V.length) = Y := List.drop_left' (by simp; omega)
 rw [e1, e2, e3, e4]
theorem ZMA {α : Type} (l : List α) (a m b : Nat) (h1 : a ≤ m) (h2 : m ≤ b) (h3 : b ≤ l.length) : ∃ X U V Y : List α, l = X ++ U ++ V ++ Y ∧ X.length = a ∧ X.length + U.length = m ∧ X.length + U.length + V.length = b := by
 obtain ⟨X, l1, rfl, hX⟩ := Zbz l a (by omega)
 simp only [List.length_append] at h3
 obtain ⟨U, l2, rfl, hU⟩ := Zbz l1 (m - a) (by omega)
 simp only [List.length_append] at h3
 obtain ⟨V, Y, rfl, hV⟩ := Zbz l2 (b - m) (by omega)
 exact ⟨X, U, V, Y, by simp, hX, by omega, by omega⟩
def ZgA (l : List Cell) (a m b : Int) : Bool := decide (0 ≤ a) && decide (a < m) && decide (m < b) && decide (b ≤ l.length) && Nat.ble l.length most
def Zez : Entry := stE Zm8 Zm9 185 Zsh (fun a => some (ZgA a.1 a.2.1 a.2.2.1 a.2.2.2)) (fun a => rotX a.1 a.2.1.toNat a.2.2.1.toNat a.2.2.2.toNat)
theorem Zfz : Zc Tryz.prog 325 Zez := ZeT ZNk fun a h1 h2 hp => by
 obtain ⟨l, a, m, b⟩ := a
 have hp : ZgA l a m b = true := by cases h : ZgA l a m b <;> simp_all
 simp only [ZgA, Bool.and_eq_true, decide_eq_true_eq, Nat.ble_eq] at hp
 obtain ⟨⟨⟨⟨p1, p2⟩, p3⟩, p4⟩, p5⟩ := hp
 obtain ⟨a, rfl⟩ := Int.eq_ofNat_of_zero_le p1
 obtain ⟨m, rfl⟩ := Int.eq_ofNat_of_zero_le (show (0 : Int) ≤ m by omega)
 obtain ⟨b, rfl⟩ := Int.eq_ofNat_of_zero_le (show (0 : Int) ≤ b by omega)
 obtain ⟨X, U, V, Y, rfl, rfl, rfl, rfl⟩ := ZMA l a m b (by omega) (by omega) (by omega)
 have := ZNy X U V Y (by omega) (by omega) p5
 simp only [ZPM, uRot, Int.toNat_natCast]
 rw [this, ZEI]
 simp [okB, getO]
end
end Go.Proofs.YtghoimllhpjkjaaGreat
set_option linter.unusedSimpArgs false
open Go Go.S3 Go.Proofs Go.Proofs.Cells
set_option linter.unusedVariables false
namespace Go.Proofs.YtghoimllhpjkjaaGreat
noncomputable section
def srtB : List Cell → Bool
 | [] => true
 | x :: r => (match r with
  | [] => true
  | y :: _ => decide (x.1 ≤ y.1)) && srtB r
theorem Zeg : ∀ {l : List Cell}, srtB l = true ↔ Srt l
 | [] => by simp [srtB, Srt]
 | [x] => by simp [srtB, Srt]
 | x :: y :: r => by
  have ih := Zeg (l := y :: r)
  rw [srtB]
  simp only [Bool.and_eq_true, decide_eq_true_eq, ih]
  constructor
  ·rintro ⟨h1, h2⟩
   refine List.pairwise_cons.2 ⟨fun z hz => ?_, h2⟩
   rcases List.mem_cons.1 hz with rfl | hz
   ·exact h1
   ·have := (List.pairwise_cons.1 h2).1 z hz; omega
  ·intro h
   have := List.pairwise_cons.1 h
   exact ⟨this.1 y (by simp), this.2⟩
def Zgx (k : Int) (l : List Cell) (a m b : Int) : Bool := ZgA l a m b && decide (b - a ≤ k) && srtB ((l.drop a.toNat).take (m.toNat - a.toNat)) && srtB ((l.drop m.toNat).take (b.toNat - m.toNat))
def ZNv (k : Int) : Entry := stE Zm8 Zm9 185 Zsh (fun a => some (Zgx k a.1 a.2.1 a.2.2.1 a.2.2.2)) (fun a => Zc1 a.1 a.2.1.toNat a.2.2.2.toNat)
end
end Go.Proofs.YtghoimllhpjkjaaGreat
open Go.IntKind (u8 u16 i64)
set_option linter.unusedSimpArgs false
open Go Go.S3 Go.Proofs
set_option linter.unusedVariables false
set_option maxRecDepth 100000
namespace Go.Proofs.YtghoimllhpjkjaaGreat
noncomputable section
abbrev ZeQ : R := R.pair (R.int u16) (R.int u8)
abbrev ZjF : Nat := 106
abbrev Zsc : List Sh := [Sh.one (R.int i64), Sh.one (R.int i64), Sh.one (R.int i64)]
def ZNj : LS := { n := 220, slots := [(0, .tip 0), (1, .code (Sh.one (R.int i64))), (4, .fix (A.clo 185 [])), (10, .code (Sh.one (R.int i64))), (11, .code (Sh.one (R.int i64)))], boxes := [], stgs := [⟨R.pair (R.int u16) (R.int u8), 106, false⟩], keep := [0] }
def ZhE (a : QT9) : RT (Option (Go1 (QT9))) :=
 let x1 := i64.wrap (shrI IntKind.u64 (IntKind.u64.wrap (i64.wrap (a.2.1 + a.2.2.1))) 1)
 let x2 := Zf x1 (List.length a.2.2.2.1)
 let x3 := !x2 || Zf a.1 (List.length a.2.2.2.1)
 let x4 := decide (ZmX (R.get (R.pair (R.int u16) (R.int u8)) a.2.2.2.1 x1) (R.get (R.pair (R.int u16) (R.int u8)) a.2.2.2.1 a.1) < 0)
 .br (decide (a.2.1 < a.2.2.1)) (.br (!x3 || x2) (.br (x3) (.leaf (some (Go1.cont (a.1, bif x4 then i64.wrap (x1 + 1) else a.2.1, bif x4 then a.2.2.1 else x1, a.2.2.2.1, PUnit.unit)))) (.leaf none)) (.leaf none)) (.leaf (some (Go1.brk (a.1, a.2.1, a.2.2.1, a.2.2.2.1, PUnit.unit))))
def ZD3 : Ora := Zbt false ZNj ZhE (fun a => (a.2.2.1 - a.2.1).toNat + 1)
theorem ZD2 : Za3 (envX Tryz.prog [(325, Zez), (185, Zat)] [] 33554431 8) (.block 0 (.loop (Zab Tryz.f293.body 0))) ZD3 :=
 ZB (ZI (l := [(325, Zez), (185, Zat)]) ⟨Zfz, Zas, trivial⟩ [] 33554431 8) (Zp (by kernel_rfl)) (fun a => by kernel_rfl)
def ZNi : LS := { n := 220, slots := [(0, .tip 0), (10, .code (Sh.one (R.int i64))), (13, .code (Sh.one (R.int i64)))], boxes := [], stgs := [⟨R.pair (R.int u16) (R.int u8), 106, false⟩], keep := [0] }
def ZhD (a : QT13) : RT (Option (Go1 (QT13))) :=
 let x1 := !Zf (i64.wrap (a.2.1 + 1)) (List.length a.2.2.1)
 let x2 := setI a.2.2.1 a.2.1 (R.get (R.pair (R.int u16) (R.int u8)) a.2.2.1 (i64.wrap (a.2.1 + 1)))
 let x3 := x1 || (!Zf a.2.1 (List.length a.2.2.1) || (!Zf a.2.1 (List.length a.2.2.1) || Zf (i64.wrap (a.2.1 + 1)) (List.length x2)))
 let x4 := !x3
 let x5 := x1 || (!Zf a.2.1 (List.length a.2.2.1) || Zf a.2.1 (List.length a.2.2.1))
 let x6 := !x5
 let x7 := x1 || Zf a.2.1 (List.length a.2.2.1)
 .br (decide (a.2.1 < i64.wrap (a.1 - 1))) (.br (x4 || (x6 || (!x7 || Zf (i64.wrap (a.2.1 + 1)) (List.length a.2.2.1)))) (.br (x4 || (x6 || x7)) (.br (x4 || x5) (.br (x3) (.leaf (some (Go1.cont (a.1, i64.wrap (a.2.1 + 1), setI x2 (i64.wrap (a.2.1 + 1)) (R.get (R.pair (R.int u16) (R.int u8)) a.2.2.1 a.2.1), PUnit.unit)))) (.leaf none)) (.leaf none)) (.leaf none)) (.leaf none)) (.leaf (some (Go1.brk (a.1, a.2.1, a.2.2.1, PUnit.unit))))
def ZD1 : Ora := Zbt false ZNi ZhD (fun a => (a.1 - a.2.1).toNat + 1)
theorem ZD0 : Za3 (envX Tryz.prog [(325, Zez), (185, Zat)] [] 33554431 8) (.block 2 (.loop (Zab Tryz.f293.body 2))) ZD1 :=
 ZB (ZI (l := [(325, Zez), (185, Zat)]) ⟨Zfz, Zas, trivial⟩ [] 33554431 8) (Zp (by kernel_rfl)) (fun a => by kernel_rfl)
def ZNh : LS := { n := 220, slots := [(0, .tip 0), (2, .code (Sh.one (R.int i64))), (4, .fix (A.clo 185 [])), (14, .code (Sh.one (R.int i64))), (15, .code (Sh.one (R.int i64)))], boxes := [], stgs := [⟨R.pair (R.int u16) (R.int u8), 106, false⟩], keep := [0] }
def ZhC (a : QT9) : RT (Option (Go1 (QT9))) :=
 let x1 := i64.wrap (shrI IntKind.u64 (IntKind.u64.wrap (i64.wrap (a.2.1 + a.2.2.1))) 1)
 let x2 := !Zf a.1 (List.length a.2.2.2.1) || Zf x1 (List.length a.2.2.2.1)
 let x3 := !decide (ZmX (R.get (R.pair (R.int u16) (R.int u8)) a.2.2.2.1 a.1) (R.get (R.pair (R.int u16) (R.int u8)) a.2.2.2.1 x1) < 0)
 .br (decide (a.2.1 < a.2.2.1)) (.br (!x2 || Zf a.1 (List.length a.2.2.2.1)) (.br (x2) (.leaf (some (Go1.cont (a.1, bif x3 then i64.wrap (x1 + 1) else a.2.1, bif x3 then a.2.2.1 else x1, a.2.2.2.1, PUnit.unit)))) (.leaf none)) (.leaf none)) (.leaf (some (Go1.brk (a.1, a.2.1, a.2.2.1, a.2.2.2.1, PUnit.unit))))
def ZDZ : Ora := Zbt false ZNh ZhC (fun a => (a.2.2.1 - a.2.1).toNat + 1)
theorem ZDY : Za3 (envX Tryz.prog [(325, Zez), (185, Zat)] [] 33554431 8) (.block 4 (.loop (Zab Tryz.f293.body 4))) ZDZ :=
 ZB (ZI (l := [(325, Zez), (185, Zat)]) ⟨Zfz, Zas, trivial⟩ [] 33554431 8) (Zp (by kernel_rfl)) (fun a => by kernel_rfl)
def ZNg : LS := { n := 220, slots := [(0, .tip 0), (14, .code (Sh.one (R.int i64))), (17, .code (Sh.one (R.int i64)))], boxes := [], stgs := [⟨R.pair (R.int u16) (R.int u8), 106, false⟩], keep := [0] }
def ZhB (a : QT13) : RT (Option (Go1 (QT13))) :=
 let x1 := !Zf (i64.wrap (a.2.1 - 1)) (List.length a.2.2.1)
 let x2 := setI a.2.2.1 a.2.1 (R.get (R.pair (R.int u16) (R.int u8)) a.2.2.1 (i64.wrap (a.2.1 - 1)))
 let x3 := x1 || (!Zf a.2.1 (List.length a.2.2.1) || (!Zf a.2.1 (List.length a.2.2.1) || Zf (i64.wrap (a.2.1 - 1)) (List.length x2)))
 let x4 := !x3
 let x5 := x1 || (!Zf a.2.1 (List.length a.2.2.1) || Zf a.2.1 (List.length a.2.2.1))
 let x6 := !x5
 let x7 := x1 || Zf a.2.1 (List.length a.2.2.1)
 .br (decide (a.2.1 > a.1)) (.br (x4 || (x6 || (!x7 || Zf (i64.wrap (a.2.1 - 1)) (List.length a.2.2.1)))) (.br (x4 || (x6 || x7)) (.br (x4 || x5) (.br (x3) (.leaf (some (Go1.cont (a.1, i64.wrap (a.2.1 - 1), setI x2 (i64.wrap (a.2.1 - 1)) (R.get (R.pair (R.int u16) (R.int u8)) a.2.2.1 a.2.1), PUnit.unit)))) (.leaf none)) (.leaf none)) (.leaf none)) (.leaf none)) (.leaf (some (Go1.brk (a.1, a.2.1, a.2.2.1, PUnit.unit))))
def ZDX : Ora := Zbt false ZNg ZhB (fun a => (a.2.1 - a.1).toNat + 1)
theorem ZDW : Za3 (envX Tryz.prog [(325, Zez), (185, Zat)] [] 33554431 8) (.block 6 (.loop (Zab Tryz.f293.body 6))) ZDX :=
 ZB (ZI (l := [(325, Zez), (185, Zat)]) ⟨Zfz, Zas, trivial⟩ [] 33554431 8) (Zp (by kernel_rfl)) (fun a => by kernel_rfl)
def ZNf : LS := { n := 220, slots := [(0, .tip 0), (1, .code (Sh.one (R.int i64))), (2, .code (Sh.one (R.int i64))), (3, .code (Sh.one (R.int i64))), (4, .fix (A.clo 185 [])), (18, .code (Sh.one (R.int i64))), (19, .code (Sh.one (R.int i64))), (20, .code (Sh.one (R.int i64))), (21, .code (Sh.one (R.int i64))), (22, .code (Sh.one (R.int i64)))], boxes := [], stgs := [⟨R.pair (R.int u16) (R.int u8), 106, false⟩], keep := [0] }
def ZhA (a : QT15) : RT (Option (Go1 (QT15))) :=
 let x1 := i64.wrap (shrI IntKind.u64 (IntKind.u64.wrap (i64.wrap (a.2.2.2.2.2.1 + a.2.2.2.2.2.2.1))) 1)
 let x2 := i64.wrap (a.2.2.2.2.2.2.2.1 - x1)
 let x3 := Zf x2 (List.length a.2.2.2.2.2.2.2.2.1)
 let x4 := !x3 || Zf x1 (List.length a.2.2.2.2.2.2.2.2.1)
 let x5 := !decide (ZmX (R.get (R.pair (R.int u16) (R.int u8)) a.2.2.2.2.2.2.2.2.1 x2) (R.get (R.pair (R.int u16) (R.int u8)) a.2.2.2.2.2.2.2.2.1 x1) < 0)
 let x6 : Int × List (Int × Int) × PUnit := (a.2.2.2.2.2.2.2.1, a.2.2.2.2.2.2.2.2.1, PUnit.unit)
 .br (decide (a.2.2.2.2.2.1 < a.2.2.2.2.2.2.1)) (.br (!x4 || x3) (.br (x4) (.leaf (some (Go1.cont (a.1, a.2.1, a.2.2.1, a.2.2.2.1, a.2.2.2.2.1, bif x5 then i64.wrap (x1 + 1) else a.2.2.2.2.2.1, bif x5 then a.2.2.2.2.2.2.1 else x1, x6)))) (.leaf none)) (.leaf none)) (.leaf (some (Go1.brk (a.1, a.2.1, a.2.2.1, a.2.2.2.1, a.2.2.2.2.1, a.2.2.2.2.2.1, a.2.2.2.2.2.2.1, x6))))
def ZDV : Ora := Zbt false ZNf ZhA (fun a => (a.2.2.2.2.2.2.1 - a.2.2.2.2.2.1).toNat + 1)
theorem ZDU : Za3 (envX Tryz.prog [(325, Zez), (185, Zat)] [] 33554431 8) (.block 8 (.loop (Zab Tryz.f293.body 8))) ZDV :=
 ZB (ZI (l := [(325, Zez), (185, Zat)]) ⟨Zfz, Zas, trivial⟩ [] 33554431 8) (Zp (by kernel_rfl)) (fun a => by kernel_rfl)
def Zoi (k : Int) (s : List (Int × Int)) (a : Int) (m : Int) (b : Int) : RT (Option (List (Int × Int))) :=
 let x1 := runF false ZhE (fun a_1 => Int.toNat (a_1.2.2.1 - a_1.2.1) + 1) (a, m, b, Stg.l (ZcO ZeQ ZjF s), ())
 let x2 : QT9 := (getO (false, a, m, b, Stg.l (ZcO ZeQ ZjF s), ()) x1).2
 let x3 := x2.2
 let x4 : QT13 := (x3.1, x2.1, x3.2.2.1, ())
 let x5 := runF false ZhD (fun a_1 => Int.toNat (a_1.1 - a_1.2.1) + 1) x4
 let x6 := runF false ZhC (fun a_1 => Int.toNat (a_1.2.2.1 - a_1.2.1) + 1) (m, a, m, Stg.l (ZcO ZeQ ZjF s), ())
 let x7 : QT9 := (getO (false, m, a, m, Stg.l (ZcO ZeQ ZjF s), ()) x6).2
 let x8 := x7.2
 let x9 : QT13 := (x8.1, x7.1, x8.2.2.1, ())
 let x10 := runF false ZhB (fun a_1 => Int.toNat (a_1.2.1 - a_1.1) + 1) x9
 let x11 := i64.wrap (i64.wrap (shrI IntKind.u64 (IntKind.u64.wrap (i64.wrap (a + b))) 1) + m)
 let x12 := decide (m > i64.wrap (shrI IntKind.u64 (IntKind.u64.wrap (i64.wrap (a + b))) 1))
 let x13 : QT15 := (a, m, b, i64.wrap (shrI IntKind.u64 (IntKind.u64.wrap (i64.wrap (a + b))) 1), x11, bif x12 then i64.wrap (x11 - b) else a, bif x12 then i64.wrap (shrI IntKind.u64 (IntKind.u64.wrap (i64.wrap (a + b))) 1) else m, i64.wrap (x11 - 1), Stg.l (ZcO ZeQ ZjF s), ())
 let x14 := runF false ZhA (fun a_1 => Int.toNat (a_1.2.2.2.2.2.2.1 - a_1.2.2.2.2.2.1) + 1) x13
 let x15 : QT15 := (getO (false, x13) x14).2
 let x16 := x15.2
 let x17 := x16.2
 let x18 := x17.2
 let x19 := x18.2
 let x20 := x19.2
 let x21 := x20.1
 let x22 := x16.1
 let x23 := i64.wrap (x19.1 - x21)
 let x24 := decide (x21 < x22) && decide (x22 < x23)
 let x25 := x20.2.2.2.1
 let x26 := x15.1
 let x27 := x18.1
 let x28 := decide (x26 < x21) && decide (x21 < x27)
 let x29 : List (Int × Int) := bif x24 then rotX x25 (Int.toNat x21) (Int.toNat x22) (Int.toNat x23) else x25
 let x30 := x17.1
 let x31 := decide (x27 < x23) && decide (x23 < x30)
 let x32 : Nat := Int.toNat x27
 let x33 : List (Int × Int) := bif x28 then Zc1 x29 (Int.toNat x26) x32 else x29
 .br (!i64.wrap (m - a) == 1 || okB x1) (.br (!i64.wrap (m - a) == 1 || okB x5) (.br (i64.wrap (m - a) == 1) (.leaf (some (getO (false, x4) x5).2.2.2.1)) (.br (!i64.wrap (b - m) == 1 || okB x6) (.br (!i64.wrap (b - m) == 1 || okB x10) (.br (i64.wrap (b - m) == 1) (.leaf (some (getO (false, x9) x10).2.2.2.1)) (.br (okB x14) (.br (!x24 || ZgA x25 x21 x22 x23) (.br (!x28 || Zgx k x29 x26 x21 x27) (.br (!x31 || Zgx k x33 x27 x23 x30) (.leaf (some (bif x31 then Zc1 x33 x32 (Int.toNat x30) else x33))) (.leaf none)) (.leaf none)) (.leaf none)) (.leaf none))) (.leaf none)) (.leaf none))) (.leaf none)) (.leaf none)
theorem ZJu (k : Int) (h : Zc Tryz.prog 293 (ZNv k)) {pre : List ZeQ.den × HL Zsc → Option Bool} {F : List ZeQ.den × HL Zsc → List ZeQ.den} (hF : ∀ a, (R.sl ZeQ).ok a.1 → okHL Zsc a.2 → pre a ≠ some false → (Zoi k a.1 a.2.1 a.2.2.1 a.2.2.2).val = some (F a)) : Zc Tryz.prog 293 (stE ZeQ ZjF 185 Zsc pre F) :=
 ZPR (P := Tryz.prog) (n := 33554431) (k := 8) (l := [(325, Zez), (185, Zat), (293, ZNv k)]) (ol := [(0, ZD3), (2, ZD1), (4, ZDZ), (6, ZDX), (8, ZDV)]) ⟨Zfz, Zas, h, trivial⟩ Tryz.func293 rfl (by kernel_rfl) Tryz.call293 ⟨ZD2, ZD0, ZDY, ZDW, ZDU, trivial⟩ (r := ZeQ) (T := ZjF) (g0 := 185) (ts := Zsc) (t := fun a => Zoi k a.1 a.2.1 a.2.2.1 a.2.2.2) (fun a => by kernel_rfl) hF
end
end Go.Proofs.YtghoimllhpjkjaaGreat
open Go.IntKind (u8 u16 i64)
open Go Go.S3 Go.Proofs Go.Proofs.Cells
set_option linter.unusedVariables false
set_option linter.unusedSimpArgs false
set_option maxRecDepth 100000
namespace Go.Proofs.YtghoimllhpjkjaaGreat
noncomputable section
theorem Zmx (i j : Nat) (h : i + j ≤ 4611686018427387904) : IntKind.wrap .i64 (shrI .u64 (IntKind.wrap .u64 (IntKind.wrap .i64 ((i : Int) + (j : Int)))) 1) = (((i + j) / 2 : Nat) : Int) := by
 rw [wrap_i64 ((i : Int) + (j : Int)) (by omega) (by omega)]
 have e : IntKind.wrap .u64 ((i : Int) + (j : Int)) = ((i + j : Nat) : Int) := by
  rw [ZjD ⟨by simp [IntKind.min, IntKind.signed]; omega, by simp [IntKind.max, IntKind.signed, IntKind.bits]; omega⟩]; simp
 rw [e]
 have : shrI .u64 ((i + j : Nat) : Int) 1 = (((i + j) / 2 : Nat) : Int) := by
  simp only [shrI, IntKind.bits]
  rw [show (2 : Int) ^ (min (1 : Int).toNat 64) = 2 from rfl, Int.fdiv_eq_ediv_of_nonneg _ (by decide)]; simp
 rw [this, wrap_i64 _ (by omega) (by omega)]
theorem ZJj {D : Type} {T : D → RT (Option (Go1 D))} {fuel : D → Nat} (mk : Nat → Nat → D) (q : Nat → Bool) (lo hi : Nat) (hlo : lo ≤ hi) (hf : hi - lo < fuel (mk lo hi))
  (hstep : ∀ i j, lo ≤ i → i < j → j ≤ hi → (T (mk i j)).val = some (.cont (bif q ((i + j) / 2) then mk ((i + j) / 2 + 1) j else mk i ((i + j) / 2))))
  (hend : ∀ i, lo ≤ i → i ≤ hi → (T (mk i i)).val = some (.brk (mk i i))) :
  ∃ i, lo ≤ i ∧ i ≤ hi ∧ runF false T fuel (mk lo hi) = some (false, mk i i) ∧ (i = lo ∨ q (i - 1) = true) ∧ (i = hi ∨ q i = false) := by
 have key : ∀ (n i j : Nat), lo ≤ i → i ≤ j → j ≤ hi → j - i < n → (i = lo ∨ q (i - 1) = true) → (j = hi ∨ q j = false) →
   ∃ r, runL (fun a => (T a).val) n (mk i j) = some (false, mk r r) ∧ lo ≤ r ∧ r ≤ hi ∧ (r = lo ∨ q (r - 1) = true) ∧ (r = hi ∨ q r = false) := by
  intro n
  induction n with
  | zero => intro i j _ _ _ h; omega
  | succ n ih =>
   intro i j h1 h2 h3 h4 h5 h6
   by_cases he : i = j
   ·subst he
    exact ⟨i, by simp only [runL, hend i h1 h3], h1, h3, h5, h6⟩
   ·have hs := hstep i j h1 (by omega) h3
    cases hq : q ((i + j) / 2) with
    | true =>
     rw [hq] at hs
     obtain ⟨r, hr, hr2⟩ := ih ((i + j) / 2 + 1) j (by omega) (by omega) h3 (by omega) (.inr (by simpa using hq)) h6
     exact ⟨r, by simp only [runL, hs, cond_true]; exact hr, hr2⟩
    | false =>
     rw [hq] at hs
     obtain ⟨r, hr, hr2⟩ := ih i ((i + j) / 2) h1 (by omega) (by omega) (by omega) h5 (.inr hq)
     exact ⟨r, by simp only [runL, hs, cond_false]; exact hr, hr2⟩
 obtain ⟨r, hr, h1, h2, h3, h4⟩ := key (fuel (mk lo hi)) lo hi (Nat.le_refl _) hlo (Nat.le_refl _) hf (.inl rfl) (.inl rfl)
 exact ⟨r, h1, h2, by unfold runF; rw [hr]; rfl, h3, h4⟩
def el (l : List Cell) (i : Nat) : Cell := l.getD i (0, 0)
theorem ZbP (l : List Cell) (i : Nat) : R.get CR l (i : Int) = el l i := by simp [R.get, el, R.dflt]
theorem ZAN (X V Y : List Cell) (i : Nat) (h : i < V.length) : el (X ++ V ++ Y) (X.length + i) = el V i := by
 simp only [el, List.getD_eq_getElem?_getD]
 rw [List.append_assoc, List.getElem?_append_right (by omega), Nat.add_sub_cancel_left, List.getElem?_append_left h]
theorem Zb0 (V : List Cell) (i : Nat) (h : i < V.length) : V[i]? = some (el V i) := by
 simp [el, List.getD_eq_getElem?_getD, List.getElem?_eq_getElem h]
theorem Ziw {V : List Cell} (h : Srt V) {i j : Nat} (hij : i ≤ j) (hj : j < V.length) : (el V i).1 ≤ (el V j).1 := by
 by_cases e : i = j
 ·subst e; exact Int.le_refl _
 ·have h1 := Zb0 V i (by omega)
  have h2 := Zb0 V j hj
  have := List.pairwise_iff_getElem.1 h i j (by omega) hj (by omega)
  rw [List.getElem?_eq_getElem (by omega)] at h1 h2
  simp only [oinj] at h1 h2
  rw [← h1, ← h2]; exact this
theorem Zjx {V : List Cell} {p : Nat} {y : Cell} (h : y ∈ V.take p) : ∃ i, i < p ∧ i < V.length ∧ y = el V i := by
 obtain ⟨i, hi, rfl⟩ := List.mem_iff_getElem.1 h
 simp only [List.length_take] at hi
 refine ⟨i, by omega, by omega, ?_⟩
 have := Zb0 V i (by omega)
 rw [List.getElem?_eq_getElem (by omega)] at this
 simp only [oinj] at this
 rw [← this]; simp
theorem Zhc {V : List Cell} {p : Nat} {y : Cell} (h : y ∈ V.drop p) : ∃ i, p ≤ i ∧ i < V.length ∧ y = el V i := by
 obtain ⟨i, hi, rfl⟩ := List.mem_iff_getElem.1 h
 simp only [List.length_drop] at hi
 refine ⟨p + i, by omega, by omega, ?_⟩
 have := Zb0 V (p + i) (by omega)
 rw [List.getElem?_eq_getElem (by omega)] at this
 simp only [oinj] at this
 rw [← this]; simp
theorem ZPV (X P Rr : List Cell) (x : Cell) (hm : (X ++ x :: (P ++ Rr)).length ≤ most) :
  ∃ r, runF false ZhD (fun a => Int.toNat (a.1 - a.2.1) + 1) (((X.length + P.length + 1 : Nat) : Int), (X.length : Int), X ++ x :: (P ++ Rr), ()) = some r ∧ r.2.2.2.1 = X ++ P ++ x :: Rr := by
 have hms := mst
 simp only [List.length_append, List.length_cons] at hm
 refine ZZ (fl := false) (t := ZhD) (fuel := fun a => Int.toNat (a.1 - a.2.1) + 1)
  (I := fun a => ∃ P1 P2 : List Cell, P = P1 ++ P2 ∧ a = (((X.length + P.length + 1 : Nat) : Int), ((X.length + P1.length : Nat) : Int), X ++ P1 ++ x :: (P2 ++ Rr), ()))
  (m := fun a => Int.toNat (a.1 - a.2.1)) (R := fun r => r.2.2.2.1 = X ++ P ++ x :: Rr)
  (fun a hi => ?_) _ ⟨[], P, rfl, by simp⟩ (Nat.lt_succ_self _)
 obtain ⟨P1, P2, rfl, rfl⟩ := hi
 simp only [List.length_append] at hm ⊢
 have w0 : IntKind.wrap .i64 (((X.length + (P1.length + P2.length) + 1 : Nat) : Int) - 1) = ((X.length + P1.length + P2.length : Nat) : Int) := by rw [wrap_i64 _ (by omega) (by omega)]; omega
 cases P2 with
 | nil =>
  right; left
  refine ⟨(((X.length + (P1.length + ([] : List Cell).length) + 1 : Nat) : Int), ((X.length + P1.length : Nat) : Int), X ++ P1 ++ x :: ([] ++ Rr), ()), ?_, by simp⟩
  have d : decide (((X.length + P1.length : Nat) : Int) < ((X.length + P1.length + ([] : List Cell).length : Nat) : Int)) = false := by simp
  simp only [ZhD, RT.val, w0, d, cond_false]
 | cons y P2 =>
  left
  have d : decide (((X.length + P1.length : Nat) : Int) < ((X.length + P1.length + (y :: P2).length : Nat) : Int)) = true := by simp; omega
  have w1 : IntKind.wrap .i64 (((X.length + P1.length : Nat) : Int) + 1) = ((X ++ P1).length : Int) + 1 + (([] : List Cell).length : Int) := by rw [wrap_i64 _ (by simp only [List.length_cons] at hm; omega) (by simp only [List.length_cons] at hm; omega)]; simp
  have w2 : ((X.length + P1.length : Nat) : Int) = ((X ++ P1).length : Int) := by simp
  have e0 : X ++ P1 ++ x :: (y :: P2 ++ Rr) = (X ++ P1) ++ x :: ([] ++ y :: (P2 ++ Rr)) := by simp
  have g1 : R.get CR ((X ++ P1) ++ x :: ([] ++ y :: (P2 ++ Rr))) ((X ++ P1).length : Int) = x := Zmz (r := CR) _ _ _ _ rfl
  have g2 := Zjy (X ++ P1) x y [] (P2 ++ Rr) _ rfl
  have r1 := ZoB (X ++ P1) x ([] ++ y :: (P2 ++ Rr)) _ rfl
  have r2 := Zi6 (X ++ P1) x y [] (P2 ++ Rr) _ rfl
  have s1 := ZyM (X ++ P1) x y [] (P2 ++ Rr) _ _ rfl rfl
  refine ⟨(((X.length + (P1.length + (y :: P2).length) + 1 : Nat) : Int), ((X ++ P1).length : Int) + 1 + (([] : List Cell).length : Int), (X ++ P1) ++ y :: ([] ++ x :: (P2 ++ Rr)), ()), ?_, ⟨P1 ++ [y], P2, by simp, by simp; omega⟩, by simp; omega⟩
  rw [e0]
  rw [w2] at w1 d ⊢
  simp only [ZhD, RT.val, w0, d, w1, g1, g2, r1, r2, s1, Zmn, cond_true, Bool.not_true, Bool.or_true, Bool.false_or, Bool.or_false]
theorem ZPW (X Q Rr : List Cell) (y : Cell) (hm : (X ++ (Q ++ y :: Rr)).length ≤ most) :
  ∃ r, runF false ZhB (fun a => Int.toNat (a.2.1 - a.1) + 1) ((X.length : Int), ((X.length + Q.length : Nat) : Int), X ++ (Q ++ y :: Rr), ()) = some r ∧ r.2.2.2.1 = X ++ y :: (Q ++ Rr) := by
 have hms := mst
 simp only [List.length_append, List.length_cons] at hm
 refine ZZ (fl := false) (t := ZhB) (fuel := fun a => Int.toNat (a.2.1 - a.1) + 1)
  (I := fun a => ∃ Q1 Q2 : List Cell, Q = Q1 ++ Q2 ∧ a = ((X.length : Int), ((X.length + Q1.length : Nat) : Int), X ++ Q1 ++ y :: (Q2 ++ Rr), ()))
  (m := fun a => Int.toNat (a.2.1 - a.1)) (R := fun r => r.2.2.2.1 = X ++ y :: (Q ++ Rr))
  (fun a hi => ?_) _ ⟨Q, [], by simp, by simp⟩ (Nat.lt_succ_self _)
 obtain ⟨Q1, Q2, rfl, rfl⟩ := hi
 simp only [List.length_append] at hm
 rcases List.eq_nil_or_concat Q1 with rfl | ⟨Q', z, hc⟩
 ·right; left
  refine ⟨((X.length : Int), ((X.length + ([] : List Cell).length : Nat) : Int), X ++ [] ++ y :: (Q2 ++ Rr), ()), ?_, by simp⟩
  have d : decide (((X.length + ([] : List Cell).length : Nat) : Int) > (X.length : Int)) = false := by simp
  simp only [ZhB, RT.val, d, cond_false]
 ·rw [List.concat_eq_append] at hc
  subst hc
  left
  have hl1 : (Q' ++ [z]).length = Q'.length + 1 := by simp
  have d : decide (((X.length + (Q' ++ [z]).length : Nat) : Int) > (X.length : Int)) = true := by simp; omega
  have w1 : IntKind.wrap .i64 (((X.length + (Q' ++ [z]).length : Nat) : Int) - 1) = ((X ++ Q').length : Int) := by rw [wrap_i64 _ (by omega) (by omega)]; simp; omega
  have w2 : ((X.length + (Q' ++ [z]).length : Nat) : Int) = ((X ++ Q').length : Int) + 1 + (([] : List Cell).length : Int) := by simp; omega
  have e0 : X ++ (Q' ++ [z]) ++ y :: (Q2 ++ Rr) = (X ++ Q') ++ z :: ([] ++ y :: (Q2 ++ Rr)) := by simp
  have g1 : R.get CR ((X ++ Q') ++ z :: ([] ++ y :: (Q2 ++ Rr))) ((X ++ Q').length : Int) = z := Zmz (r := CR) _ _ _ _ rfl
  have g2 := Zjy (X ++ Q') z y [] (Q2 ++ Rr) _ rfl
  have r1 := ZoB (X ++ Q') z ([] ++ y :: (Q2 ++ Rr)) _ rfl
  have r2 := Zi6 (X ++ Q') z y [] (Q2 ++ Rr) _ rfl
  have s1 := Zsl (X ++ Q') z y [] (Q2 ++ Rr) _ _ rfl rfl
  refine ⟨((X.length : Int), ((X ++ Q').length : Int), (X ++ Q') ++ y :: ([] ++ z :: (Q2 ++ Rr)), ()), ?_, ⟨Q', z :: Q2, by simp, by simp⟩, by simp; omega⟩
  rw [e0]
  rw [w2] at w1 d ⊢
  simp only [ZhB, RT.val, d, w1, g1, g2, r1, r2, s1, Zmn, cond_true, Bool.not_true, Bool.or_true, Bool.false_or, Bool.or_false]
end
end Go.Proofs.YtghoimllhpjkjaaGreat
open Go.IntKind (u8 u16 i64)
open Go Go.S3 Go.Proofs Go.Proofs.Cells
set_option linter.unusedVariables false
set_option linter.unusedSimpArgs false
set_option maxRecDepth 100000
namespace Go.Proofs.YtghoimllhpjkjaaGreat
noncomputable section
theorem ZuH {x : Cell} {P Q : List Cell} (hs : Srt (P ++ Q)) (hP : ∀ y ∈ P, y.1 < x.1) (hQ : ∀ y ∈ Q, x.1 ≤ y.1) : isort (x :: (P ++ Q)) = P ++ x :: Q := by
 have h := List.pairwise_append.1 hs
 refine ZfN (List.pairwise_append.2 ⟨h.1, List.pairwise_cons.2 ⟨hQ, h.2.1⟩, fun a ha b hb => ?_⟩) ?_
 ·have := hP a ha
  rcases List.mem_cons.1 hb with rfl | hb
  ·omega
  ·have := hQ b hb; omega
 ·have := Sm.swap (u := P) (v := [x]) (fun a ha b hb => by simp at hb; subst hb; have := hP a ha; omega) [] Q
  simpa using this
theorem Zsp {y : Cell} {P Q : List Cell} (hs : Srt (P ++ Q)) (hP : ∀ a ∈ P, a.1 ≤ y.1) (hQ : ∀ a ∈ Q, y.1 < a.1) : isort (P ++ Q ++ [y]) = P ++ y :: Q := by
 have h := List.pairwise_append.1 hs
 refine ZfN (List.pairwise_append.2 ⟨h.1, List.pairwise_cons.2 ⟨fun b hb => by have := hQ b hb; omega, h.2.1⟩, fun a ha b hb => ?_⟩) ?_
 ·have := hP a ha
  rcases List.mem_cons.1 hb with rfl | hb
  ·omega
  ·have := hQ b hb; omega
 ·have := (Sm.swap (u := Q) (v := [y]) (fun a ha b hb => by simp at hb; subst hb; have := hQ a ha; omega) P []).symm
  simpa using this
theorem Zal {α : Type} (l : List α) (i : Nat) (h : i < l.length) : Zf (i : Int) l.length = true := ZaH.2 (by omega)
theorem ZeO (i : Nat) (h : i ≤ 4611686018427387904) : IntKind.wrap .i64 ((i : Int) + 1) = ((i + 1 : Nat) : Int) := by rw [wrap_i64 _ (by omega) (by omega)]; simp
theorem wsub (i j : Nat) (h : i ≤ 4611686018427387904) (hj : j ≤ i) : IntKind.wrap .i64 ((i : Int) - (j : Int)) = ((i - j : Nat) : Int) := by rw [wrap_i64 _ (by omega) (by omega)]; omega
theorem wadd (i j : Nat) (h : i + j ≤ 4611686018427387904) : IntKind.wrap .i64 ((i : Int) + (j : Int)) = ((i + j : Nat) : Int) := by rw [wrap_i64 _ (by omega) (by omega)]; simp
theorem ZNs (k : Int) (X V Y : List Cell) (x : Cell) (hV : 0 < V.length) (sV : Srt V) (hm : (X ++ [x] ++ V ++ Y).length ≤ most) :
  (Zoi k (X ++ [x] ++ V ++ Y) X.length (X.length + 1 : Nat) (X.length + 1 + V.length : Nat)).val = some (X ++ isort ([x] ++ V) ++ Y) := by
 have hms := mst
 have hlen : (X ++ [x] ++ V ++ Y).length = X.length + 1 + V.length + Y.length := by simp; omega
 have hm' := hm
 rw [hlen] at hm'
 have ga : el (X ++ [x] ++ V ++ Y) X.length = x := by
  simp [el]
 have gv : ∀ i, i < V.length → el (X ++ [x] ++ V ++ Y) (X.length + 1 + i) = el V i := fun i hi => by
  have := ZAN (X ++ [x]) V Y i hi; simpa using this
 obtain ⟨i, i1, i2, hrun, q1, q2⟩ := ZJj (T := ZhE) (fuel := fun a_1 => Int.toNat (a_1.2.2.1 - a_1.2.1) + 1) (fun i j => ((X.length : Int), (i : Int), (j : Int), X ++ [x] ++ V ++ Y, ()))
  (fun h => decide ((el (X ++ [x] ++ V ++ Y) h).1 < x.1)) (X.length + 1) (X.length + 1 + V.length) (by omega) (by simp only; omega)
  (fun i j h1 h2 h3 => by
   have d : decide ((i : Int) < (j : Int)) = true := by simpa using h2
   have r1 := Zal (X ++ [x] ++ V ++ Y) ((i + j) / 2) (by rw [hlen]; omega)
   have r2 := Zal (X ++ [x] ++ V ++ Y) X.length (by rw [hlen]; omega)
   simp only [ZhE, RT.val, d, Zmx i j (by omega), r1, r2, Bool.not_true, Bool.false_or, cond_true, ZbP, Zi4, ga, ZeO ((i + j) / 2) (by omega)]
   cases decide ((el (X ++ [x] ++ V ++ Y) ((i + j) / 2)).1 < x.1) <;> rfl)
  (fun i h1 h2 => by
   have d : decide ((i : Int) < (i : Int)) = false := by simp
   simp only [ZhE, RT.val, d, cond_false])
 obtain ⟨p, rfl⟩ : ∃ p, i = X.length + 1 + p := ⟨i - (X.length + 1), by omega⟩
 have hp : p ≤ V.length := by omega
 have hP : ∀ y ∈ V.take p, y.1 < x.1 := fun y hy => by
  obtain ⟨j, h1, h2, rfl⟩ := Zjx hy
  rcases q1 with q1 | q1
  ·omega
  ·rw [show X.length + 1 + p - 1 = X.length + 1 + (p - 1) by omega, gv (p - 1) (by omega)] at q1
   have := Ziw sV (i := j) (j := p - 1) (by omega) (by omega)
   simp only [decide_eq_true_eq] at q1; omega
 have hQ : ∀ y ∈ V.drop p, x.1 ≤ y.1 := fun y hy => by
  obtain ⟨j, h1, h2, rfl⟩ := Zhc hy
  rcases q2 with q2 | q2
  ·omega
  ·rw [gv p (by omega)] at q2
   have := Ziw sV (i := p) (j := j) h1 h2
   simp only [decide_eq_false_iff_not] at q2; omega
 have hV2 : V.take p ++ V.drop p = V := List.take_append_drop p V
 have hpl : (V.take p).length = p := by simp; omega
 obtain ⟨r, hr, hr2⟩ := ZPV X (V.take p) (V.drop p ++ Y) x (by
  have : X ++ x :: (V.take p ++ (V.drop p ++ Y)) = X ++ [x] ++ V ++ Y := by rw [← List.append_assoc (V.take p), hV2]; simp
  rw [this]; exact hm)
 rw [hpl, show X.length + p + 1 = X.length + 1 + p by omega, show X ++ x :: (V.take p ++ (V.drop p ++ Y)) = X ++ [x] ++ V ++ Y by rw [← List.append_assoc (V.take p), hV2]; simp] at hr
 have w1 : (IntKind.wrap .i64 (((X.length + 1 : Nat) : Int) - (X.length : Int)) == 1) = true := by rw [wsub _ _ (by omega) (by omega)]; simp
 have hfin : X ++ V.take p ++ x :: (V.drop p ++ Y) = X ++ isort ([x] ++ V) ++ Y := by
  have := ZuH (x := x) (P := V.take p) (Q := V.drop p) (by rw [hV2]; exact sV) hP hQ
  rw [hV2] at this
  rw [show [x] ++ V = x :: V from rfl, this]; simp
 have hrun' : runF false ZhE (fun a_1 => Int.toNat (a_1.2.2.1 - a_1.2.1) + 1) ((X.length : Int), ((X.length + 1 : Nat) : Int), ((X.length + 1 + V.length : Nat) : Int), X ++ [x] ++ V ++ Y, ()) = some (false, ((X.length : Int), ((X.length + 1 + p : Nat) : Int), ((X.length + 1 + p : Nat) : Int), X ++ [x] ++ V ++ Y, ())) := hrun
 simp only [Zoi, ZcO, RT.val, w1, Bool.not_true, Bool.false_or, hrun', okB, getO, cond_true, hr, hr2, hfin]
theorem ZJD (k : Int) (X U Y : List Cell) (y : Cell) (hU : 1 < U.length) (sU : Srt U) (hm : (X ++ U ++ [y] ++ Y).length ≤ most) :
  (Zoi k (X ++ U ++ [y] ++ Y) X.length (X.length + U.length : Nat) (X.length + U.length + 1 : Nat)).val = some (X ++ isort (U ++ [y]) ++ Y) := by
 have hms := mst
 have hlen : (X ++ U ++ [y] ++ Y).length = X.length + U.length + 1 + Y.length := by simp; omega
 have hm' := hm
 rw [hlen] at hm'
 have ga : el (X ++ U ++ [y] ++ Y) (X.length + U.length) = y := by
  simp [el]
 have gv : ∀ i, i < U.length → el (X ++ U ++ [y] ++ Y) (X.length + i) = el U i := fun i hi => by
  have := ZAN X U ([y] ++ Y) i hi; simpa using this
 obtain ⟨i, i1, i2, hrun, q1, q2⟩ := ZJj (T := ZhC) (fuel := fun a_1 => Int.toNat (a_1.2.2.1 - a_1.2.1) + 1) (fun i j => (((X.length + U.length : Nat) : Int), (i : Int), (j : Int), X ++ U ++ [y] ++ Y, ()))
  (fun h => decide ((el (X ++ U ++ [y] ++ Y) h).1 ≤ y.1)) X.length (X.length + U.length) (by omega) (by simp only; omega)
  (fun i j h1 h2 h3 => by
   have d : decide ((i : Int) < (j : Int)) = true := by simpa using h2
   have r1 := Zal (X ++ U ++ [y] ++ Y) ((i + j) / 2) (by rw [hlen]; omega)
   have r2 := Zal (X ++ U ++ [y] ++ Y) (X.length + U.length) (by rw [hlen]; omega)
   simp only [ZhC, RT.val, d, Zmx i j (by omega), r1, r2, Bool.not_true, Bool.false_or, Bool.or_true, cond_true, ZbP, Zsi, ga, ZeO ((i + j) / 2) (by omega)]
   cases decide ((el (X ++ U ++ [y] ++ Y) ((i + j) / 2)).1 ≤ y.1) <;> rfl)
  (fun i h1 h2 => by
   have d : decide ((i : Int) < (i : Int)) = false := by simp
   simp only [ZhC, RT.val, d, cond_false])
 obtain ⟨p, rfl⟩ : ∃ p, i = X.length + p := ⟨i - X.length, by omega⟩
 have hp : p ≤ U.length := by omega
 have hP : ∀ a ∈ U.take p, a.1 ≤ y.1 := fun a ha => by
  obtain ⟨j, h1, h2, rfl⟩ := Zjx ha
  rcases q1 with q1 | q1
  ·omega
  ·rw [show X.length + p - 1 = X.length + (p - 1) by omega, gv (p - 1) (by omega)] at q1
   have := Ziw sU (i := j) (j := p - 1) (by omega) (by omega)
   simp only [decide_eq_true_eq] at q1; omega
 have hQ : ∀ a ∈ U.drop p, y.1 < a.1 := fun a ha => by
  obtain ⟨j, h1, h2, rfl⟩ := Zhc ha
  rcases q2 with q2 | q2
  ·omega
  ·rw [gv p (by omega)] at q2
   have := Ziw sU (i := p) (j := j) h1 h2
   simp only [decide_eq_false_iff_not] at q2; omega
 have hU2 : U.take p ++ U.drop p = U := List.take_append_drop p U
 have hql : (U.drop p).length = U.length - p := by simp
 have hpl : (X ++ U.take p).length = X.length + p := by simp; omega
 have e0 : (X ++ U.take p) ++ (U.drop p ++ y :: Y) = X ++ U ++ [y] ++ Y := by
  have : (X ++ U.take p) ++ (U.drop p ++ y :: Y) = X ++ ((U.take p ++ U.drop p) ++ y :: Y) := by simp only [List.append_assoc]
  rw [this, hU2]; simp
 obtain ⟨r, hr, hr2⟩ := ZPW (X ++ U.take p) (U.drop p) Y y (by rw [e0]; exact hm)
 rw [e0, hpl, hql, show X.length + p + (U.length - p) = X.length + U.length by omega] at hr
 have w0 : (IntKind.wrap .i64 (((X.length + U.length : Nat) : Int) - (X.length : Int)) == 1) = false := by rw [wsub _ _ (by omega) (by omega)]; simp; omega
 have w1 : (IntKind.wrap .i64 (((X.length + U.length + 1 : Nat) : Int) - ((X.length + U.length : Nat) : Int)) == 1) = true := by rw [wsub _ _ (by omega) (by omega)]; simp
 have hfin : X ++ U.take p ++ y :: (U.drop p ++ Y) = X ++ isort (U ++ [y]) ++ Y := by
  have := Zsp (y := y) (P := U.take p) (Q := U.drop p) (by rw [hU2]; exact sU) hP hQ
  rw [hU2] at this
  rw [this]; simp
 have hrun' : runF false ZhC (fun a_1 => Int.toNat (a_1.2.2.1 - a_1.2.1) + 1) (((X.length + U.length : Nat) : Int), (X.length : Int), ((X.length + U.length : Nat) : Int), X ++ U ++ [y] ++ Y, ()) = some (false, (((X.length + U.length : Nat) : Int), ((X.length + p : Nat) : Int), ((X.length + p : Nat) : Int), X ++ U ++ [y] ++ Y, ())) := hrun
 simp only [Zoi, ZcO, RT.val, w0, w1, Bool.not_true, Bool.not_false, Bool.true_or, Bool.false_or, hrun', okB, getO, cond_true, cond_false, hr, hr2, hfin]
end
end Go.Proofs.YtghoimllhpjkjaaGreat
open Go.IntKind (u8 u16 i64)
open Go Go.S3 Go.Proofs Go.Proofs.Cells
set_option linter.unusedVariables false
set_option linter.unusedSimpArgs false
set_option maxRecDepth 100000
namespace Go.Proofs.YtghoimllhpjkjaaGreat
noncomputable section
theorem Zdw (l : List Cell) : (isort l).length = l.length := by
 have hi : ∀ (x : Cell) (l : List Cell), (ins x l).length = l.length + 1 := fun x l => by
  induction l with
  | nil => rfl
  | cons y l ih => simp only [ins]; split <;> simp [ih]
 have : ∀ (l acc : List Cell), (l.foldl (fun a x => ins x a) acc).length = acc.length + l.length := by
  intro l
  induction l with
  | nil => intro acc; simp
  | cons a l ih => intro acc; rw [List.foldl_cons, ih, hi]; simp; omega
 simp [isort, this]
theorem sub3 (X U V Y : List Cell) : ((X ++ U ++ V ++ Y).drop X.length).take ((X.length + U.length) - X.length) = U ∧ ((X ++ U ++ V ++ Y).drop (X.length + U.length)).take ((X.length + U.length + V.length) - (X.length + U.length)) = V := by
 constructor
 ·have : X ++ U ++ V ++ Y = X ++ (U ++ (V ++ Y)) := by simp
  rw [this, List.drop_left' rfl, List.take_left' (by omega)]
 ·have : X ++ U ++ V ++ Y = (X ++ U) ++ (V ++ Y) := by simp
  rw [this, List.drop_left' (by simp), List.take_left' (by omega)]
theorem ZyQ (X U V Y : List Cell) (hU : 0 < U.length) (hV : 0 < V.length) (hm : (X ++ U ++ V ++ Y).length ≤ most) : ZgA (X ++ U ++ V ++ Y) X.length (X.length + U.length : Nat) (X.length + U.length + V.length : Nat) = true := by
 simp only [ZgA, Bool.and_eq_true, decide_eq_true_eq, Nat.ble_eq]
 simp only [List.length_append] at hm ⊢
 omega
theorem ZyL (k : Int) (X U V Y : List Cell) (hU : 0 < U.length) (hV : 0 < V.length) (sU : Srt U) (sV : Srt V) (hk : ((U.length + V.length : Nat) : Int) ≤ k) (hm : (X ++ U ++ V ++ Y).length ≤ most) : Zgx k (X ++ U ++ V ++ Y) X.length (X.length + U.length : Nat) (X.length + U.length + V.length : Nat) = true := by
 obtain ⟨s1, s2⟩ := sub3 X U V Y
 simp only [Zgx, ZyQ X U V Y hU hV hm, Int.toNat_natCast, s1, s2, Zeg.2 sU, Zeg.2 sV, Bool.and_true, Bool.true_and, decide_eq_true_eq]
 omega
theorem ZjQ (X L Y : List Cell) (b : Nat) (hb : b = X.length + L.length) : Zc1 (X ++ L ++ Y) X.length b = X ++ isort L ++ Y := by subst hb; exact Zos X L Y
theorem ZNu (k : Int) (X U V Y : List Cell) (hU : 1 < U.length) (hV : 1 < V.length) (sU : Srt U) (sV : Srt V) (hk : ((U.length + V.length : Nat) : Int) ≤ k + 1) (hm : (X ++ U ++ V ++ Y).length ≤ most) :
  (Zoi k (X ++ U ++ V ++ Y) X.length (X.length + U.length : Nat) (X.length + U.length + V.length : Nat)).val = some (X ++ isort (U ++ V) ++ Y) := by
 have hms := mst
 have hlen : (X ++ U ++ V ++ Y).length = X.length + U.length + V.length + Y.length := by simp; omega
 have hm' := hm
 rw [hlen] at hm'
 have gu : ∀ i, i < U.length → el (X ++ U ++ V ++ Y) (X.length + i) = el U i := fun i hi => by
  have := ZAN X U (V ++ Y) i hi; simpa using this
 have gv : ∀ i, i < V.length → el (X ++ U ++ V ++ Y) (X.length + U.length + i) = el V i := fun i hi => by
  have := ZAN (X ++ U) V Y i hi; simpa using this
 obtain ⟨M, hM⟩ : ∃ M, M = (X.length + (X.length + U.length + V.length)) / 2 := ⟨_, rfl⟩
 obtain ⟨lo, hi, hlo, hlh, hb1, hb2, hb3, hb4, hb5⟩ : ∃ lo hi : Nat, lo ≤ hi ∧
   ((bif decide (((X.length + U.length : Nat) : Int) > (M : Int)) then IntKind.wrap .i64 (((M + (X.length + U.length) : Nat) : Int) - ((X.length + U.length + V.length : Nat) : Int)) else (X.length : Int)) = (lo : Int) ∧ (bif decide (((X.length + U.length : Nat) : Int) > (M : Int)) then (M : Int) else ((X.length + U.length : Nat) : Int)) = (hi : Int)) ∧
   X.length ≤ lo ∧ hi ≤ X.length + U.length ∧ (∀ c, lo ≤ c → c < hi → X.length + U.length ≤ M + (X.length + U.length) - 1 - c ∧ M + (X.length + U.length) - 1 - c < X.length + U.length + V.length) ∧
   ((lo = X.length ∨ M + (X.length + U.length) - lo = X.length + U.length + V.length) ∧ (hi = X.length + U.length ∨ hi = M)) ∧ M + (X.length + U.length) ≤ lo + (X.length + U.length + V.length) := by
  by_cases hc : M < X.length + U.length
  ·refine ⟨M + (X.length + U.length) - (X.length + U.length + V.length), M, by omega, ⟨?_, ?_⟩, by omega, by omega, fun c h1 h2 => by omega, ⟨by omega, .inr rfl⟩, by omega⟩
   ·have : decide (((X.length + U.length : Nat) : Int) > (M : Int)) = true := by simp; omega
    rw [this, cond_true, wsub _ _ (by omega) (by omega)]
   ·have : decide (((X.length + U.length : Nat) : Int) > (M : Int)) = true := by simp; omega
    rw [this, cond_true]
  ·refine ⟨X.length, X.length + U.length, by omega, ⟨?_, ?_⟩, by omega, by omega, fun c h1 h2 => by omega, ⟨.inl rfl, .inl rfl⟩, by omega⟩
   ·have : decide (((X.length + U.length : Nat) : Int) > (M : Int)) = false := by simp; omega
    rw [this, cond_false]
   ·have : decide (((X.length + U.length : Nat) : Int) > (M : Int)) = false := by simp; omega
    rw [this, cond_false]
 obtain ⟨σ, i1, i2, hrun, q1, q2⟩ := ZJj (T := ZhA) (fuel := fun a_1 => Int.toNat (a_1.2.2.2.2.2.2.1 - a_1.2.2.2.2.2.1) + 1)
  (fun i j => ((X.length : Int), ((X.length + U.length : Nat) : Int), ((X.length + U.length + V.length : Nat) : Int), (M : Int), ((M + (X.length + U.length) : Nat) : Int), (i : Int), (j : Int), ((M + (X.length + U.length) - 1 : Nat) : Int), X ++ U ++ V ++ Y, ()))
  (fun h => decide ((el (X ++ U ++ V ++ Y) h).1 ≤ (el (X ++ U ++ V ++ Y) (M + (X.length + U.length) - 1 - h)).1)) lo hi hlo (by simp only; omega)
  (fun i j h1 h2 h3 => by
   have d : decide ((i : Int) < (j : Int)) = true := by simpa using h2
   obtain ⟨b1, b2⟩ := hb3 ((i + j) / 2) (by omega) (by omega)
   have r1 := Zal (X ++ U ++ V ++ Y) ((i + j) / 2) (by rw [hlen]; omega)
   have r2 := Zal (X ++ U ++ V ++ Y) (M + (X.length + U.length) - 1 - (i + j) / 2) (by rw [hlen]; omega)
   simp only [ZhA, RT.val, d, Zmx i j (by omega), wsub (M + (X.length + U.length) - 1) ((i + j) / 2) (by omega) (by omega), r1, r2, Bool.not_true, Bool.false_or, cond_true, ZbP, Zsi, ZeO ((i + j) / 2) (by omega)]
   cases decide ((el (X ++ U ++ V ++ Y) ((i + j) / 2)).1 ≤ (el (X ++ U ++ V ++ Y) (M + (X.length + U.length) - 1 - (i + j) / 2)).1) <;> rfl)
  (fun i h1 h2 => by
   have d : decide ((i : Int) < (i : Int)) = false := by simp
   simp only [ZhA, RT.val, d, cond_false])
 obtain ⟨n1, hn1⟩ : ∃ n1, σ = X.length + n1 := ⟨σ - X.length, by omega⟩
 subst hn1
 have hn1 : n1 ≤ U.length := by omega
 have hbound : ∀ c, lo ≤ c → c < hi → True := fun _ _ _ => trivial
 have hσM : X.length + n1 ≤ M := by
  rcases hb4.2 with e | e
  ·by_cases hc : M < X.length + U.length
   ·have := hb3 lo
    rcases Nat.lt_or_ge lo hi with h | h
    ·have := hb3 (hi - 1) (by omega) (by omega); omega
    ·omega
   ·omega
  ·omega
 obtain ⟨u1, u2, hu, hu1⟩ := Zbz U n1 hn1
 have hv1le : M - (X.length + n1) ≤ V.length := by omega
 obtain ⟨v1, v2, hv, hv1⟩ := Zbz V (M - (X.length + n1)) hv1le
 subst hu hv
 simp only [List.length_append] at *
 have su := List.pairwise_append.1 sU
 have sv := List.pairwise_append.1 sV
 have eu : ∀ i, i < u1.length + u2.length → el (X ++ (u1 ++ u2) ++ (v1 ++ v2) ++ Y) (X.length + i) = el (u1 ++ u2) i := fun i hi => gu i (by omega)
 have ev : ∀ i, i < v1.length + v2.length → el (X ++ (u1 ++ u2) ++ (v1 ++ v2) ++ Y) (X.length + (u1.length + u2.length) + i) = el (v1 ++ v2) i := fun i hi => gv i (by omega)
 have mu1 : ∀ x ∈ u1, ∃ i, i < u1.length ∧ x = el (u1 ++ u2) i := fun x hx => by
  obtain ⟨i, h1, h2, e⟩ := Zjx (V := u1 ++ u2) (p := u1.length) (y := x) (by simpa using hx)
  exact ⟨i, h1, e⟩
 have mu2 : ∀ x ∈ u2, ∃ i, u1.length ≤ i ∧ i < u1.length + u2.length ∧ x = el (u1 ++ u2) i := fun x hx => by
  obtain ⟨i, h1, h2, e⟩ := Zhc (V := u1 ++ u2) (p := u1.length) (y := x) (by simpa using hx)
  exact ⟨i, h1, by simpa using h2, e⟩
 have mv1 : ∀ x ∈ v1, ∃ i, i < v1.length ∧ x = el (v1 ++ v2) i := fun x hx => by
  obtain ⟨i, h1, h2, e⟩ := Zjx (V := v1 ++ v2) (p := v1.length) (y := x) (by simpa using hx)
  exact ⟨i, h1, e⟩
 have mv2 : ∀ x ∈ v2, ∃ i, v1.length ≤ i ∧ i < v1.length + v2.length ∧ x = el (v1 ++ v2) i := fun x hx => by
  obtain ⟨i, h1, h2, e⟩ := Zhc (V := v1 ++ v2) (p := v1.length) (y := x) (by simpa using hx)
  exact ⟨i, h1, by simpa using h2, e⟩
 have h12 : ∀ x ∈ u2, ∀ y ∈ v1, y.1 < x.1 := fun x hx y hy => by
  obtain ⟨i, a1, a2, rfl⟩ := mu2 x hx
  obtain ⟨j, b1, rfl⟩ := mv1 y hy
  rcases q2 with e | e
  ·exfalso; rcases hb4.2 with f | f <;> omega
  ·have hidx : M + (X.length + (u1.length + u2.length)) - 1 - (X.length + n1) = X.length + (u1.length + u2.length) + (v1.length - 1) := by omega
   rw [eu n1 (by omega), hidx, ev (v1.length - 1) (by omega)] at e
   have c1 := Ziw sU (i := n1) (j := i) (by omega) (by simp; omega)
   have c2 := Ziw sV (i := j) (j := v1.length - 1) (by omega) (by simp; omega)
   simp only [decide_eq_false_iff_not] at e
   omega
 have h1 : ∀ x ∈ u1, ∀ y ∈ v2, x.1 ≤ y.1 := fun x hx y hy => by
  obtain ⟨i, a1, rfl⟩ := mu1 x hx
  obtain ⟨j, b1, b2, rfl⟩ := mv2 y hy
  rcases q1 with e | e
  ·exfalso; rcases hb4.1 with f | f <;> omega
  ·have hidx : M + (X.length + (u1.length + u2.length)) - 1 - (X.length + n1 - 1) = X.length + (u1.length + u2.length) + v1.length := by omega
   rw [hidx, show X.length + n1 - 1 = X.length + (n1 - 1) by omega, eu (n1 - 1) (by omega), ev v1.length (by omega)] at e
   have c1 := Ziw sU (i := i) (j := n1 - 1) (by omega) (by simp; omega)
   have c2 := Ziw sV (i := v1.length) (j := j) (by omega) (by simp; omega)
   simp only [decide_eq_true_eq] at e
   omega
 have hlaw := ZNt h12 h1 su.2.2 sv.2.2
 have hMv : M = X.length + u1.length + v1.length := by omega
 have w0 : (IntKind.wrap .i64 (((X.length + (u1.length + u2.length) : Nat) : Int) - (X.length : Int)) == 1) = false := by rw [wsub _ _ (by omega) (by omega)]; simp; omega
 have w1 : (IntKind.wrap .i64 (((X.length + (u1.length + u2.length) + (v1.length + v2.length) : Nat) : Int) - ((X.length + (u1.length + u2.length) : Nat) : Int)) == 1) = false := by rw [wsub _ _ (by omega) (by omega)]; simp; omega
 have w2 : IntKind.wrap .i64 (shrI .u64 (IntKind.wrap .u64 (IntKind.wrap .i64 ((X.length : Int) + ((X.length + (u1.length + u2.length) + (v1.length + v2.length) : Nat) : Int)))) 1) = (M : Int) := by
  rw [Zmx _ _ (by omega), hM]
 have w3 : IntKind.wrap .i64 ((M : Int) + ((X.length + (u1.length + u2.length) : Nat) : Int)) = ((M + (X.length + (u1.length + u2.length)) : Nat) : Int) := wadd _ _ (by omega)
 have w4 : IntKind.wrap .i64 (((M + (X.length + (u1.length + u2.length)) : Nat) : Int) - 1) = ((M + (X.length + (u1.length + u2.length)) - 1 : Nat) : Int) := by
  have := wsub (M + (X.length + (u1.length + u2.length))) 1 (by omega) (by omega); simpa using this
 have w5 : IntKind.wrap .i64 (((M + (X.length + (u1.length + u2.length)) : Nat) : Int) - ((X.length + n1 : Nat) : Int)) = ((X.length + (u1.length + u2.length) + v1.length : Nat) : Int) := by rw [wsub _ _ (by omega) (by omega)]; omega
 have e0 : X ++ (u1 ++ u2) ++ (v1 ++ v2) ++ Y = (X ++ u1) ++ u2 ++ v1 ++ (v2 ++ Y) := by simp
 have hrot : (decide (((X.length + n1 : Nat) : Int) < ((X.length + (u1.length + u2.length) : Nat) : Int)) && decide (((X.length + (u1.length + u2.length) : Nat) : Int) < ((X.length + (u1.length + u2.length) + v1.length : Nat) : Int))) = true →
   ZgA (X ++ (u1 ++ u2) ++ (v1 ++ v2) ++ Y) ((X.length + n1 : Nat) : Int) ((X.length + (u1.length + u2.length) : Nat) : Int) ((X.length + (u1.length + u2.length) + v1.length : Nat) : Int) = true := fun h => by
  simp only [Bool.and_eq_true, decide_eq_true_eq] at h
  have := ZyQ (X ++ u1) u2 v1 (v2 ++ Y) (by omega) (by omega) (by rw [← e0]; simp only [List.length_append]; omega)
  rw [e0]
  simp only [List.length_append] at this
  rwa [show X.length + u1.length + u2.length = X.length + (u1.length + u2.length) by omega, show X.length + u1.length = X.length + n1 by omega] at this
 have hrotX : (bif (decide (((X.length + n1 : Nat) : Int) < ((X.length + (u1.length + u2.length) : Nat) : Int)) && decide (((X.length + (u1.length + u2.length) : Nat) : Int) < ((X.length + (u1.length + u2.length) + v1.length : Nat) : Int))) then rotX (X ++ (u1 ++ u2) ++ (v1 ++ v2) ++ Y) (X.length + n1) (X.length + (u1.length + u2.length)) (X.length + (u1.length + u2.length) + v1.length) else X ++ (u1 ++ u2) ++ (v1 ++ v2) ++ Y) = X ++ u1 ++ v1 ++ (u2 ++ v2 ++ Y) := by
  by_cases h : 0 < u2.length ∧ 0 < v1.length
  ·have : (decide (((X.length + n1 : Nat) : Int) < ((X.length + (u1.length + u2.length) : Nat) : Int)) && decide (((X.length + (u1.length + u2.length) : Nat) : Int) < ((X.length + (u1.length + u2.length) + v1.length : Nat) : Int))) = true := by
    simp only [Bool.and_eq_true, decide_eq_true_eq]; omega
   rw [this, cond_true, e0]
   have := ZEI (X ++ u1) u2 v1 (v2 ++ Y)
   simp only [List.length_append] at this
   rw [show X.length + u1.length + u2.length = X.length + (u1.length + u2.length) by omega, show X.length + u1.length = X.length + n1 by omega] at this
   rw [this]; simp
  ·have : (decide (((X.length + n1 : Nat) : Int) < ((X.length + (u1.length + u2.length) : Nat) : Int)) && decide (((X.length + (u1.length + u2.length) : Nat) : Int) < ((X.length + (u1.length + u2.length) + v1.length : Nat) : Int))) = false := by
    rw [Bool.eq_false_iff]; simp only [ne_eq, Bool.and_eq_true, decide_eq_true_eq]; omega
   rw [this, cond_false]
   rcases Nat.eq_zero_or_pos u2.length with h2 | h2
   ·rw [List.length_eq_zero_iff.1 h2]; simp
   ·rw [List.length_eq_zero_iff.1 (show v1.length = 0 by omega)]; simp
 have hl2 : (X ++ u1 ++ v1 ++ (u2 ++ v2 ++ Y)).length ≤ most := by simp only [List.length_append]; omega
 have hs1 : (decide ((X.length : Int) < ((X.length + n1 : Nat) : Int)) && decide (((X.length + n1 : Nat) : Int) < (M : Int))) = true → Zgx k (X ++ u1 ++ v1 ++ (u2 ++ v2 ++ Y)) (X.length : Int) ((X.length + n1 : Nat) : Int) (M : Int) = true := fun h => by
  simp only [Bool.and_eq_true, decide_eq_true_eq] at h
  have := ZyL k X u1 v1 (u2 ++ v2 ++ Y) (by omega) (by omega) su.1 sv.1 (by omega) hl2
  rwa [← hMv, show X.length + u1.length = X.length + n1 by omega] at this
 have hsX1 : (bif (decide ((X.length : Int) < ((X.length + n1 : Nat) : Int)) && decide (((X.length + n1 : Nat) : Int) < (M : Int))) then Zc1 (X ++ u1 ++ v1 ++ (u2 ++ v2 ++ Y)) X.length M else X ++ u1 ++ v1 ++ (u2 ++ v2 ++ Y)) = X ++ isort (u1 ++ v1) ++ (u2 ++ v2 ++ Y) := by
  by_cases h : 0 < u1.length ∧ 0 < v1.length
  ·have : (decide ((X.length : Int) < ((X.length + n1 : Nat) : Int)) && decide (((X.length + n1 : Nat) : Int) < (M : Int))) = true := by simp only [Bool.and_eq_true, decide_eq_true_eq]; omega
   rw [this, cond_true, List.append_assoc X u1 v1]
   exact ZjQ X (u1 ++ v1) (u2 ++ v2 ++ Y) M (by simp; omega)
  ·have : (decide ((X.length : Int) < ((X.length + n1 : Nat) : Int)) && decide (((X.length + n1 : Nat) : Int) < (M : Int))) = false := by rw [Bool.eq_false_iff]; simp only [ne_eq, Bool.and_eq_true, decide_eq_true_eq]; omega
   rw [this, cond_false]
   have : isort (u1 ++ v1) = u1 ++ v1 := Zn4 (by
    rcases Nat.eq_zero_or_pos u1.length with h2 | h2
    ·rw [List.length_eq_zero_iff.1 h2, List.nil_append]; exact sv.1
    ·rw [List.length_eq_zero_iff.1 (show v1.length = 0 by omega), List.append_nil]; exact su.1)
   rw [this]; simp
 have e3 : X ++ isort (u1 ++ v1) ++ (u2 ++ v2 ++ Y) = (X ++ isort (u1 ++ v1)) ++ u2 ++ v2 ++ Y := by simp
 have hl3 : (X ++ isort (u1 ++ v1)).length = M := by rw [List.length_append, Zdw]; simp; omega
 have hs2 : (decide ((M : Int) < ((X.length + (u1.length + u2.length) + v1.length : Nat) : Int)) && decide (((X.length + (u1.length + u2.length) + v1.length : Nat) : Int) < ((X.length + (u1.length + u2.length) + (v1.length + v2.length) : Nat) : Int))) = true → Zgx k (X ++ isort (u1 ++ v1) ++ (u2 ++ v2 ++ Y)) (M : Int) ((X.length + (u1.length + u2.length) + v1.length : Nat) : Int) ((X.length + (u1.length + u2.length) + (v1.length + v2.length) : Nat) : Int) = true := fun h => by
  simp only [Bool.and_eq_true, decide_eq_true_eq] at h
  have := ZyL k (X ++ isort (u1 ++ v1)) u2 v2 Y (by omega) (by omega) su.2.1 sv.2.1 (by omega) (by rw [← e3]; simp only [List.length_append, Zdw]; omega)
  rw [e3]
  rw [hl3] at this
  rwa [show M + u2.length = X.length + (u1.length + u2.length) + v1.length by omega, show X.length + (u1.length + u2.length) + v1.length + v2.length = X.length + (u1.length + u2.length) + (v1.length + v2.length) by omega] at this
 have hsX2 : (bif (decide ((M : Int) < ((X.length + (u1.length + u2.length) + v1.length : Nat) : Int)) && decide (((X.length + (u1.length + u2.length) + v1.length : Nat) : Int) < ((X.length + (u1.length + u2.length) + (v1.length + v2.length) : Nat) : Int))) then Zc1 (X ++ isort (u1 ++ v1) ++ (u2 ++ v2 ++ Y)) M (X.length + (u1.length + u2.length) + (v1.length + v2.length)) else X ++ isort (u1 ++ v1) ++ (u2 ++ v2 ++ Y)) = X ++ isort (u1 ++ u2 ++ (v1 ++ v2)) ++ Y := by
  have hfin : isort (u1 ++ u2 ++ (v1 ++ v2)) = isort (u1 ++ v1) ++ isort (u2 ++ v2) := by rw [← hlaw]; simp
  rw [hfin]
  by_cases h : 0 < u2.length ∧ 0 < v2.length
  ·have : (decide ((M : Int) < ((X.length + (u1.length + u2.length) + v1.length : Nat) : Int)) && decide (((X.length + (u1.length + u2.length) + v1.length : Nat) : Int) < ((X.length + (u1.length + u2.length) + (v1.length + v2.length) : Nat) : Int))) = true := by simp only [Bool.and_eq_true, decide_eq_true_eq]; omega
   rw [this, cond_true, e3, List.append_assoc (X ++ isort (u1 ++ v1)) u2 v2]
   have := ZjQ (X ++ isort (u1 ++ v1)) (u2 ++ v2) Y (X.length + (u1.length + u2.length) + (v1.length + v2.length)) (by rw [hl3]; simp; omega)
   rw [hl3] at this
   rw [this]; simp
  ·have : (decide ((M : Int) < ((X.length + (u1.length + u2.length) + v1.length : Nat) : Int)) && decide (((X.length + (u1.length + u2.length) + v1.length : Nat) : Int) < ((X.length + (u1.length + u2.length) + (v1.length + v2.length) : Nat) : Int))) = false := by rw [Bool.eq_false_iff]; simp only [ne_eq, Bool.and_eq_true, decide_eq_true_eq]; omega
   rw [this, cond_false]
   have : isort (u2 ++ v2) = u2 ++ v2 := Zn4 (by
    rcases Nat.eq_zero_or_pos u2.length with h2 | h2
    ·rw [List.length_eq_zero_iff.1 h2, List.nil_append]; exact sv.2.1
    ·rw [List.length_eq_zero_iff.1 (show v2.length = 0 by omega), List.append_nil]; exact su.2.1)
   rw [this]; simp
 have imp : ∀ {p q : Bool}, (p = true → q = true) → (!p || q) = true := fun {p q} h => by
  cases p with
  | false => rfl
  | true => rw [h rfl]; rfl
 have hst : runF false ZhA (fun a_1 => Int.toNat (a_1.2.2.2.2.2.2.1 - a_1.2.2.2.2.2.1) + 1) ((X.length : Int), ((X.length + (u1.length + u2.length) : Nat) : Int), ((X.length + (u1.length + u2.length) + (v1.length + v2.length) : Nat) : Int), (M : Int), ((M + (X.length + (u1.length + u2.length)) : Nat) : Int), (lo : Int), (hi : Int), ((M + (X.length + (u1.length + u2.length)) - 1 : Nat) : Int), X ++ (u1 ++ u2) ++ (v1 ++ v2) ++ Y, ()) = some (false, ((X.length : Int), ((X.length + (u1.length + u2.length) : Nat) : Int), ((X.length + (u1.length + u2.length) + (v1.length + v2.length) : Nat) : Int), (M : Int), ((M + (X.length + (u1.length + u2.length)) : Nat) : Int), ((X.length + n1 : Nat) : Int), ((X.length + n1 : Nat) : Int), ((M + (X.length + (u1.length + u2.length)) - 1 : Nat) : Int), X ++ (u1 ++ u2) ++ (v1 ++ v2) ++ Y, ())) := hrun
 simp only [Zoi, ZcO, RT.val, w0, w1, w2, w3, w4, Bool.not_false, Bool.true_or, cond_true, cond_false, hlh.1, hlh.2, hst, okB, getO, w5, imp hrot, Int.toNat_natCast, hrotX, imp hs1, hsX1, imp hs2, hsX2]
theorem ZNr (k : Int) (X U V Y : List Cell) (hU : 0 < U.length) (hV : 0 < V.length) (sU : Srt U) (sV : Srt V) (hk : ((U.length + V.length : Nat) : Int) ≤ k + 1) (hm : (X ++ U ++ V ++ Y).length ≤ most) :
  (Zoi k (X ++ U ++ V ++ Y) X.length (X.length + U.length : Nat) (X.length + U.length + V.length : Nat)).val = some (X ++ isort (U ++ V) ++ Y) := by
 by_cases h1 : U.length = 1
 ·obtain ⟨x, rfl⟩ := List.length_eq_one_iff.1 h1
  exact ZNs k X V Y x hV sV hm
 ·by_cases h2 : V.length = 1
  ·obtain ⟨y, rfl⟩ := List.length_eq_one_iff.1 h2
   exact ZJD k X U Y y (by omega) sU hm
  ·exact ZNu k X U V Y (by omega) (by omega) sU sV hk hm
theorem ZyK : ∀ n : Nat, Zc Tryz.prog 293 (ZNv (n : Int))
 | 0 => Zc.st_never Tryz.call293 fun a => by
  obtain ⟨l, a, m, b⟩ := a
  have : Zgx ((0 : Nat) : Int) l a m b = false := by
   cases h : Zgx ((0 : Nat) : Int) l a m b with
   | false => rfl
   | true =>
    exfalso
    simp only [Zgx, ZgA, Bool.and_eq_true, decide_eq_true_eq, Nat.ble_eq] at h
    obtain ⟨⟨⟨⟨⟨⟨⟨p1, p2⟩, p3⟩, p4⟩, p5⟩, p6⟩, p7⟩, p8⟩ := h
    omega
  simp only [this]
 | n + 1 => ZJu (n : Int) (ZyK n) fun a h1 h2 hp => by
  obtain ⟨l, a, m, b⟩ := a
  have hp : Zgx ((n + 1 : Nat) : Int) l a m b = true := by cases h : Zgx ((n + 1 : Nat) : Int) l a m b <;> simp_all
  simp only [Zgx, ZgA, Bool.and_eq_true, decide_eq_true_eq, Nat.ble_eq] at hp
  obtain ⟨⟨⟨⟨⟨⟨⟨p1, p2⟩, p3⟩, p4⟩, p5⟩, p6⟩, p7⟩, p8⟩ := hp
  obtain ⟨a, rfl⟩ := Int.eq_ofNat_of_zero_le p1
  obtain ⟨m, rfl⟩ := Int.eq_ofNat_of_zero_le (show (0 : Int) ≤ m by omega)
  obtain ⟨b, rfl⟩ := Int.eq_ofNat_of_zero_le (show (0 : Int) ≤ b by omega)
  obtain ⟨X, U, V, Y, rfl, rfl, rfl, rfl⟩ := ZMA l a m b (by omega) (by omega) (by omega)
  obtain ⟨s1, s2⟩ := sub3 X U V Y
  simp only [Int.toNat_natCast, s1, s2] at p7 p8
  have := ZNr (n : Int) X U V Y (by omega) (by omega) (Zeg.1 p7) (Zeg.1 p8) (by omega) p5
  simp only [Int.toNat_natCast]
  rw [this, List.append_assoc X U V, ZjQ X (U ++ V) Y _ (by simp; omega)]
def ZeR (l : List Cell) (a m b : Int) : Bool := ZgA l a m b && srtB ((l.drop a.toNat).take (m.toNat - a.toNat)) && srtB ((l.drop m.toNat).take (b.toNat - m.toNat))
def Zit : Entry := stE Zm8 Zm9 185 Zsh (fun a => some (ZeR a.1 a.2.1 a.2.2.1 a.2.2.2)) (fun a => Zc1 a.1 a.2.1.toNat a.2.2.2.toNat)
theorem Zi2 : Zc Tryz.prog 293 Zit := ZeT (ZyK most) fun a h1 h2 hp => ⟨by
 obtain ⟨l, a, m, b⟩ := a
 have hp : ZeR l a m b = true := by cases h : ZeR l a m b <;> simp_all
 simp only [ZeR, Bool.and_eq_true] at hp
 have hk : decide (b - a ≤ ((most : Nat) : Int)) = true := by
  have := hp.1.1
  simp only [ZgA, Bool.and_eq_true, decide_eq_true_eq, Nat.ble_eq] at this
  obtain ⟨⟨⟨⟨p1, p2⟩, p3⟩, p4⟩, p5⟩ := this
  refine decide_eq_true ?_
  have key : ∀ (a b : Int) (n : Nat), 0 ≤ a → b ≤ (n : Int) → n ≤ most → b - a ≤ ((most : Nat) : Int) := by intros; omega
  exact key a b _ p1 p4 p5
 simp only [Zgx, hp.1.1, hp.1.2, hp.2, hk, Bool.and_self]; simp, rfl⟩
end
end Go.Proofs.YtghoimllhpjkjaaGreat
open Go.IntKind (u8 u16 i64)
set_option linter.unusedSimpArgs false
open Go Go.S3 Go.Proofs
set_option linter.unusedVariables false
set_option maxRecDepth 100000
namespace Go.Proofs.YtghoimllhpjkjaaGreat
noncomputable section
abbrev Zom : R := R.pair (R.int u16) (R.int u8)
abbrev Zon : Nat := 106
abbrev Zux : List Sh := [Sh.one (R.int i64)]
def ZJA : LS := { n := 63, slots := [(0, .tip 0), (1, .code (Sh.one (R.int i64))), (2, .fix (A.clo 185 [])), (6, .code (Sh.one (R.int i64))), (7, .code (Sh.one (R.int i64))), (8, .code (Sh.one (R.int i64)))], boxes := [], stgs := [⟨R.pair (R.int u16) (R.int u8), 106, false⟩], keep := [0] }
def Zfy (a : QT6) : RT (Option (Go1 (QT6))) :=
 .br (decide (a.2.2.2.1 ≤ a.1)) (.br (ZeY a.2.2.2.2.1 a.2.2.1 a.2.2.2.1) (.leaf (some (Go1.cont (a.1, a.2.1, a.2.2.2.1, i64.wrap (a.2.2.2.1 + a.2.1), Zc1 a.2.2.2.2.1 (Int.toNat a.2.2.1) (Int.toNat a.2.2.2.1), PUnit.unit)))) (.leaf none)) (.leaf (some (Go1.brk (a.1, a.2.1, a.2.2.1, a.2.2.2.1, a.2.2.2.2.1, PUnit.unit))))
def ZyD : Ora := Zbt false ZJA Zfy (fun a => (a.1 - a.2.2.2.1).toNat + 2)
theorem ZAZ : Za3 (envX Tryz.prog [(292, Ziu), (293, Zit), (185, Zat)] [] 1023 8) (.block 0 (.loop (Zab Tryz.f243.body 0))) ZyD :=
 ZB (ZI (l := [(292, Ziu), (293, Zit), (185, Zat)]) ⟨Zi5, Zi2, Zas, trivial⟩ [] 1023 8) (Zp (by kernel_rfl)) (fun a => by kernel_rfl)
def ZJz : LS := { n := 63, slots := [(0, .tip 0), (1, .code (Sh.one (R.int i64))), (2, .fix (A.clo 185 [])), (6, .code (Sh.one (R.int i64))), (7, .code (Sh.one (R.int i64))), (8, .code (Sh.one (R.int i64)))], boxes := [], stgs := [⟨R.pair (R.int u16) (R.int u8), 106, false⟩], keep := [0] }
def Zfx (a : QT6) : RT (Option (Go1 (QT6))) :=
 .br (decide (a.2.2.2.1 ≤ a.1)) (.br (ZeR a.2.2.2.2.1 a.2.2.1 (i64.wrap (a.2.2.1 + a.2.1)) a.2.2.2.1) (.leaf (some (Go1.cont (a.1, a.2.1, a.2.2.2.1, i64.wrap (a.2.2.2.1 + i64.wrap (2 * a.2.1)), Zc1 a.2.2.2.2.1 (Int.toNat a.2.2.1) (Int.toNat a.2.2.2.1), PUnit.unit)))) (.leaf none)) (.leaf (some (Go1.brk (a.1, a.2.1, a.2.2.1, a.2.2.2.1, a.2.2.2.2.1, PUnit.unit))))
def Zi3 : Ora := Zbt false ZJz Zfx (fun a => (a.1 - a.2.2.2.1).toNat + 2)
theorem Zm7 : Za3 (envX Tryz.prog [(292, Ziu), (293, Zit), (185, Zat)] [] 1023 8) (.block 4 (.loop (Zab Tryz.f243.body 4))) Zi3 :=
 ZB (ZI (l := [(292, Ziu), (293, Zit), (185, Zat)]) ⟨Zi5, Zi2, Zas, trivial⟩ [] 1023 8) (Zp (by kernel_rfl)) (fun a => by kernel_rfl)
def ZJy : LS := { n := 63, slots := [(0, .tip 0), (1, .code (Sh.one (R.int i64))), (2, .fix (A.clo 185 [])), (6, .code (Sh.one (R.int i64)))], boxes := [], stgs := [⟨R.pair (R.int u16) (R.int u8), 106, false⟩], keep := [0] }
def Zed (a : QT13) : RT (Option (Go1 (QT13))) :=
 let x1 : QT6 := (a.1, a.2.1, 0, i64.wrap (2 * a.2.1), a.2.2.1, ())
 let x2 := runF false Zfx (fun a_1 => Int.toNat (a_1.1 - a_1.2.2.2.1) + 2) x1
 let x3 := okB x2
 let x4 : QT6 := (getO (false, x1) x2).2
 let x5 := x4.2
 let x6 := x5.2
 let x7 := x6.1
 let x8 := x5.1
 let x9 := i64.wrap (x7 + x8)
 let x10 := x4.1
 let x11 := decide (x9 < x10)
 let x12 := x6.2.2.1
 .br (decide (a.2.1 < a.1)) (.br (!x3 || (!x11 || ZeR x12 x7 x9 x10)) (.br (x3) (.leaf (some (Go1.cont (x10, i64.wrap (x8 * 2), bif x11 then Zc1 x12 (Int.toNat x7) (Int.toNat x10) else x12, PUnit.unit)))) (.leaf none)) (.leaf none)) (.leaf (some (Go1.brk (a.1, a.2.1, a.2.2.1, PUnit.unit))))
def ZyC : Ora := Zbt false ZJy Zed (fun a => (a.1 - a.2.1).toNat + 1)
theorem ZAY : Za3 (envX Tryz.prog [(292, Ziu), (293, Zit), (185, Zat)] [(4, Zi3)] 1023 8) (.block 2 (.loop (Zab Tryz.f243.body 2))) ZyC :=
 ZB (ZI (l := [(292, Ziu), (293, Zit), (185, Zat)]) ⟨Zi5, Zi2, Zas, trivial⟩ [(4, Zi3)] 1023 8) (Zmi (by kernel_rfl) (by kernel_rfl) ⟨Zm7, trivial⟩) (fun a => by kernel_rfl)
def Zsf (s : List (Int × Int)) (n : Int) : RT (Option (List (Int × Int))) :=
 let x1 : QT6 := (n, 20, 0, 20, Stg.l (ZcO Zom Zon s), ())
 let x2 := runF false Zfy (fun a => Int.toNat (a.1 - a.2.2.2.1) + 2) x1
 let x3 : QT6 := (getO (false, x1) x2).2
 let x4 := x3.2
 let x5 := x4.2
 let x6 := x5.2.2.1
 let x7 := x5.1
 let x8 := x3.1
 let x9 : QT13 := (x8, x4.1, Zc1 x6 (Int.toNat x7) (Int.toNat x8), ())
 let x10 := runF false Zed (fun a => Int.toNat (a.1 - a.2.1) + 1) x9
 .br (okB x2) (.br (ZeY x6 x7 x8) (.br (okB x10) (.leaf (some (getO (false, x9) x10).2.2.2.1)) (.leaf none)) (.leaf none)) (.leaf none)
def ZPL (s : List (Int × Int)) (n : Int) : List (Int × Int) := getO [] (Zsf s n).val
def ZLQ (s : List (Int × Int)) (n : Int) : Bool := okB (Zsf s n).val
def ZPK : Entry := stE Zom Zon 185 Zux (fun a => some (ZLQ a.1 a.2)) (fun a => ZPL a.1 a.2)
theorem ZJx : Zc Tryz.prog 243 ZPK :=
 ZjP (P := Tryz.prog) (n := 1023) (k := 8) (l := [(292, Ziu), (293, Zit), (185, Zat)]) (ol := [(0, ZyD), (4, Zi3), (2, ZyC)]) ⟨Zi5, Zi2, Zas, trivial⟩ Tryz.func243 rfl (by kernel_rfl) Tryz.call243 ⟨ZAZ, Zm7, ZAY, trivial⟩ (r := Zom) (T := Zon) (g0 := 185) (ts := Zux) (t := fun a => Zsf a.1 a.2) (fun a => by kernel_rfl)
end
end Go.Proofs.YtghoimllhpjkjaaGreat
open Go.IntKind (u8 u16 i64)
open Go Go.S3 Go.Proofs Go.Proofs.Cells
set_option linter.unusedVariables false
set_option linter.unusedSimpArgs false
set_option maxRecDepth 100000
namespace Go.Proofs.YtghoimllhpjkjaaGreat
noncomputable section
def sb (s : List Cell) (c d : Nat) : List Cell := (s.drop c).take (d - c)
theorem ZEx (X T : List Cell) (c d : Nat) (h : d ≤ X.length) : sb (X ++ T) c d = sb X c d := by
 unfold sb
 by_cases hc : c ≤ X.length
 ·rw [List.drop_append_of_le_length hc, List.take_append_of_le_length (by simp; omega)]
 ·rw [show d - c = 0 by omega]; simp
theorem ZLX (X L Y : List Cell) : sb (X ++ L ++ Y) X.length (X.length + L.length) = L := by
 unfold sb
 rw [List.append_assoc, List.drop_left' rfl, List.take_left' (by omega)]
theorem ZEw (X T : List Cell) (c d : Nat) (h : X.length ≤ c) : sb (X ++ T) c d = sb T (c - X.length) (d - X.length) := by
 unfold sb
 rw [List.drop_append, List.drop_eq_nil_of_le h, List.nil_append]
 congr 1; omega
theorem Zeh (s : List Cell) (a b : Nat) (h1 : a ≤ b) (h2 : b ≤ s.length) :
  (Zc1 s a b).length = s.length ∧ Sm (Zc1 s a b) s ∧ (∀ c d, d ≤ a → sb (Zc1 s a b) c d = sb s c d) ∧ (∀ c d, b ≤ c → sb (Zc1 s a b) c d = sb s c d) ∧ sb (Zc1 s a b) a b = isort (sb s a b) := by
 obtain ⟨X, L, Y, rfl, rfl, rfl⟩ := ZMB s a b h1 h2
 rw [Zos, ZLX]
 refine ⟨by simp [Zdw], ((Sm.refl X).app (Zeo L)).app (Sm.refl Y), fun c d h => ?_, fun c d h => ?_, ?_⟩
 ·rw [List.append_assoc, List.append_assoc, ZEx _ _ _ _ h, ZEx _ _ _ _ h]
 ·rw [ZEw (X ++ isort L) Y c d (by simp [Zdw]; omega), ZEw (X ++ L) Y c d (by simp; omega)]
  simp [Zdw]
 ·have := ZLX X (isort L) Y
  rwa [Zdw] at this
def Blk (w : Nat) (s : List Cell) : Prop := ∀ i, Srt (sb s (w * i) (w * i + w))
theorem Zox (s : List Cell) (c d : Nat) (h : s.length ≤ d) : sb s c d = s.drop c := by
 unfold sb
 exact List.take_of_length_le (by simp; omega)
theorem ZEv (s : List Cell) (c d : Nat) (h : s.length ≤ c) : sb s c d = [] := by
 unfold sb; rw [List.drop_eq_nil_of_le h]; simp
theorem Znn (s : List Cell) (a b : Nat) (h1 : a ≤ b) (h2 : b ≤ s.length) (hm : s.length ≤ most) : ZeY s a b = true := by
 simp only [ZeY, Bool.and_eq_true, decide_eq_true_eq, Nat.ble_eq]; omega
theorem loop0 (L : List Cell) (hm : L.length ≤ most) :
  ∃ r, runF false Zfy (fun a => Int.toNat (a.1 - a.2.2.2.1) + 2) ((L.length : Int), 20, 0, 20, L, ()) = some r ∧
   ∃ (j : Nat) (s : List Cell), r.2 = ((L.length : Int), 20, ((20 * j : Nat) : Int), ((20 * j + 20 : Nat) : Int), s, ()) ∧ 20 * j ≤ L.length ∧ L.length < 20 * j + 20 ∧ s.length = L.length ∧ Sm s L ∧ ∀ i, i < j → Srt (sb s (20 * i) (20 * i + 20)) := by
 have hms := mst
 refine ZZ (fl := false) (t := Zfy) (fuel := fun a => Int.toNat (a.1 - a.2.2.2.1) + 2)
  (I := fun a => ∃ (j : Nat) (s : List Cell), a = ((L.length : Int), 20, ((20 * j : Nat) : Int), ((20 * j + 20 : Nat) : Int), s, ()) ∧ 20 * j ≤ L.length ∧ s.length = L.length ∧ Sm s L ∧ ∀ i, i < j → Srt (sb s (20 * i) (20 * i + 20)))
  (m := fun a => Int.toNat (a.1 - a.2.2.2.1 + 1)) (R := fun r => ∃ (j : Nat) (s : List Cell), r.2 = ((L.length : Int), 20, ((20 * j : Nat) : Int), ((20 * j + 20 : Nat) : Int), s, ()) ∧ 20 * j ≤ L.length ∧ L.length < 20 * j + 20 ∧ s.length = L.length ∧ Sm s L ∧ ∀ i, i < j → Srt (sb s (20 * i) (20 * i + 20)))
  (fun a hi => ?_) _ ⟨0, L, by simp, by omega, rfl, Sm.refl L, fun i h => by omega⟩ (by simp only; omega)
 obtain ⟨j, s, rfl, h1, h2, h3, h4⟩ := hi
 by_cases hb : 20 * j + 20 ≤ L.length
 ·left
  have d : decide (((20 * j + 20 : Nat) : Int) ≤ (L.length : Int)) = true := by simp; omega
  have hr := Znn s (20 * j) (20 * j + 20) (by omega) (by omega) (by omega)
  have w : IntKind.wrap .i64 (((20 * j + 20 : Nat) : Int) + 20) = ((20 * (j + 1) + 20 : Nat) : Int) := by rw [wrap_i64 _ (by omega) (by omega)]; omega
  obtain ⟨f1, f2, f3, f4, f5⟩ := Zeh s (20 * j) (20 * j + 20) (by omega) (by omega)
  refine ⟨((L.length : Int), 20, ((20 * j + 20 : Nat) : Int), ((20 * (j + 1) + 20 : Nat) : Int), Zc1 s (20 * j) (20 * j + 20), ()), ?_, ⟨j + 1, _, rfl, by omega, by omega, f2.trans h3, fun i hi => ?_⟩, by simp only; omega⟩
  ·simp only [Zfy, RT.val, d, hr, cond_true, w, Int.toNat_natCast]
  ·by_cases hij : i = j
   ·subst hij; rw [f5]; exact Zbu _
   ·rw [f3 _ _ (by omega)]; exact h4 i (by omega)
 ·right; left
  have d : decide (((20 * j + 20 : Nat) : Int) ≤ (L.length : Int)) = false := by simp; omega
  exact ⟨_, by simp only [Zfy, RT.val, d, cond_false], j, s, rfl, h1, by omega, h2, h3, h4⟩
theorem Zsk (s : List Cell) (a m b : Nat) (h1 : a < m) (h2 : m < b) (h3 : b ≤ s.length) (hm : s.length ≤ most) (k1 : Srt (sb s a m)) (k2 : Srt (sb s m b)) : ZeR s a m b = true := by
 simp only [ZeR, Int.toNat_natCast, Bool.and_eq_true]
 refine ⟨⟨?_, Zeg.2 k1⟩, Zeg.2 k2⟩
 simp only [ZgA, Bool.and_eq_true, decide_eq_true_eq, Nat.ble_eq]; omega
theorem loop1 (L : List Cell) (w n : Nat) (hn : n = L.length) (hw : 0 < w) (hw2 : w ≤ 2 * most) (hm : L.length ≤ most) (hB : Blk w L) :
  ∃ r, runF false Zfx (fun a => Int.toNat (a.1 - a.2.2.2.1) + 2) ((n : Int), (w : Int), 0, ((2 * w : Nat) : Int), L, ()) = some r ∧
   ∃ (j : Nat) (s : List Cell), r.2 = ((n : Int), (w : Int), ((2 * w * j : Nat) : Int), ((2 * w * j + 2 * w : Nat) : Int), s, ()) ∧ 2 * w * j ≤ n ∧ n < 2 * w * j + 2 * w ∧ s.length = n ∧ Sm s L ∧ (∀ i, i < j → Srt (sb s (2 * w * i) (2 * w * i + 2 * w))) ∧ ∀ i, 2 * w * j ≤ w * i → Srt (sb s (w * i) (w * i + w)) := by
 have hms := mst
 refine ZZ (fl := false) (t := Zfx) (fuel := fun a => Int.toNat (a.1 - a.2.2.2.1) + 2)
  (I := fun a => ∃ (j : Nat) (s : List Cell), a = ((n : Int), (w : Int), ((2 * w * j : Nat) : Int), ((2 * w * j + 2 * w : Nat) : Int), s, ()) ∧ 2 * w * j ≤ n ∧ s.length = n ∧ Sm s L ∧ (∀ i, i < j → Srt (sb s (2 * w * i) (2 * w * i + 2 * w))) ∧ ∀ i, 2 * w * j ≤ w * i → Srt (sb s (w * i) (w * i + w)))
  (m := fun a => Int.toNat (a.1 - a.2.2.2.1 + 1)) (R := fun r => ∃ (j : Nat) (s : List Cell), r.2 = ((n : Int), (w : Int), ((2 * w * j : Nat) : Int), ((2 * w * j + 2 * w : Nat) : Int), s, ()) ∧ 2 * w * j ≤ n ∧ n < 2 * w * j + 2 * w ∧ s.length = n ∧ Sm s L ∧ (∀ i, i < j → Srt (sb s (2 * w * i) (2 * w * i + 2 * w))) ∧ ∀ i, 2 * w * j ≤ w * i → Srt (sb s (w * i) (w * i + w)))
  (fun a hi => ?_) _ ⟨0, L, by simp, by omega, hn.symm, Sm.refl L, fun i h => by omega, fun i _ => hB i⟩ (by simp only; omega)
 obtain ⟨j, s, rfl, h1, h2, h3, h4, h5⟩ := hi
 have q1 : 2 * w * (j + 1) = 2 * w * j + 2 * w := by rw [Nat.mul_add]; omega
 by_cases hb : 2 * w * j + 2 * w ≤ n
 ·left
  have d : decide (((2 * w * j + 2 * w : Nat) : Int) ≤ (n : Int)) = true := decide_eq_true (Int.ofNat_le.2 hb)
  have e1 : IntKind.wrap .i64 (((2 * w * j : Nat) : Int) + (w : Int)) = ((2 * w * j + w : Nat) : Int) := wadd _ _ (by omega)
  have e2 : IntKind.wrap .i64 (2 * (w : Int)) = ((2 * w : Nat) : Int) := by rw [wrap_i64 _ (by omega) (by omega)]; omega
  have e3 : IntKind.wrap .i64 (((2 * w * j + 2 * w : Nat) : Int) + ((2 * w : Nat) : Int)) = ((2 * w * (j + 1) + 2 * w : Nat) : Int) := by rw [wadd _ _ (by omega), q1]
  have hr := Zsk s (2 * w * j) (2 * w * j + w) (2 * w * j + 2 * w) (by omega) (by omega) (by omega) (by omega)
   (by have := h5 (2 * j) (by rw [show w * (2 * j) = 2 * w * j by rw [Nat.mul_left_comm, Nat.mul_assoc]]; exact Nat.le_refl _); rwa [show w * (2 * j) = 2 * w * j by rw [Nat.mul_left_comm, Nat.mul_assoc]] at this)
   (by
    have e : w * (2 * j + 1) = 2 * w * j + w := by rw [Nat.mul_add, Nat.mul_left_comm, Nat.mul_assoc]; omega
    have := h5 (2 * j + 1) (by rw [e]; omega)
    rw [e] at this
    rwa [show 2 * w * j + w + w = 2 * w * j + 2 * w by omega] at this)
  obtain ⟨f1, f2, f3, f4, f5⟩ := Zeh s (2 * w * j) (2 * w * j + 2 * w) (by omega) (by omega)
  refine ⟨((n : Int), (w : Int), ((2 * w * j + 2 * w : Nat) : Int), ((2 * w * (j + 1) + 2 * w : Nat) : Int), Zc1 s (2 * w * j) (2 * w * j + 2 * w), ()), ?_, ⟨j + 1, _, by rw [q1], by omega, by omega, f2.trans h3, fun i hi => ?_, fun i hi => ?_⟩, by simp only; omega⟩
  ·simp only [Zfx, RT.val, d, e1, e2, hr, cond_true, e3, Int.toNat_natCast]
  ·by_cases hij : i = j
   ·subst hij; rw [f5]; exact Zbu _
   ·have : 2 * w * i + 2 * w ≤ 2 * w * j := by
     have := Nat.mul_le_mul_left (2 * w) (show i + 1 ≤ j by omega)
     rw [Nat.mul_add] at this; omega
    rw [f3 _ _ this]; exact h4 i (by omega)
  ·rw [f4 _ _ (by omega)]; exact h5 i (by omega)
 ·right; left
  have d : decide (((2 * w * j + 2 * w : Nat) : Int) ≤ (n : Int)) = false := decide_eq_false (fun h => hb (Int.ofNat_le.1 h))
  exact ⟨_, by simp only [Zfx, RT.val, d, cond_false], j, s, rfl, h1, by omega, h2, h3, h4, h5⟩
theorem loop2 (L : List Cell) (n : Nat) (hn : n = L.length) (hm : L.length ≤ most) (hB : Blk 20 L) :
  ∃ r, runF false Zed (fun a => Int.toNat (a.1 - a.2.1) + 1) ((n : Int), 20, L, ()) = some r ∧ r.2.2.2.1 = isort L := by
 have hms := mst
 refine ZZ (fl := false) (t := Zed) (fuel := fun a => Int.toNat (a.1 - a.2.1) + 1)
  (I := fun a => ∃ (w : Nat) (s : List Cell), a = ((n : Int), (w : Int), s, ()) ∧ 0 < w ∧ w ≤ 2 * most ∧ s.length = n ∧ Sm s L ∧ Blk w s)
  (m := fun a => Int.toNat (a.1 - a.2.1)) (R := fun r => r.2.2.2.1 = isort L)
  (fun a hi => ?_) _ ⟨20, L, by simp, by omega, by omega, hn.symm, Sm.refl L, hB⟩ (Nat.lt_succ_self _)
 obtain ⟨w, s, rfl, h0, h1, h2, h3, h4⟩ := hi
 by_cases hb : w < n
 ·left
  have d : decide ((w : Int) < (n : Int)) = true := by simpa using hb
  have e0 : IntKind.wrap .i64 (2 * (w : Int)) = ((2 * w : Nat) : Int) := by rw [wrap_i64 _ (by omega) (by omega)]; omega
  obtain ⟨r, hr, j, t, hr2, k1, k2, k3, k4, k5, k6⟩ := loop1 s w n h2.symm h0 h1 (by omega) h4
  have e1 : IntKind.wrap .i64 (((2 * w * j : Nat) : Int) + (w : Int)) = ((2 * w * j + w : Nat) : Int) := wadd _ _ (by omega)
  have e2 : IntKind.wrap .i64 ((w : Int) * 2) = ((2 * w : Nat) : Int) := by rw [wrap_i64 _ (by omega) (by omega)]; omega
  have eA : w * (2 * j) = 2 * w * j := by rw [Nat.mul_left_comm, Nat.mul_assoc]
  have eB : w * (2 * j + 1) = 2 * w * j + w := by rw [Nat.mul_add, eA]; omega
  have s1 := k6 (2 * j) (by rw [eA]; exact Nat.le_refl _)
  have s2 := k6 (2 * j + 1) (by rw [eB]; omega)
  rw [eA] at s1
  rw [eB] at s2
  have tail : ∀ i, j < i → n ≤ 2 * w * i := fun i hi => by
   have := Nat.mul_le_mul_left (2 * w) (show j + 1 ≤ i by omega)
   rw [Nat.mul_add] at this; omega
  by_cases hm2 : 2 * w * j + w < n
  ·have d2 : decide (((2 * w * j + w : Nat) : Int) < (n : Int)) = true := decide_eq_true (Int.ofNat_lt.2 hm2)
   have s2' : Srt (sb t (2 * w * j + w) n) := by
    rw [Zox _ _ _ (by omega)]
    rwa [Zox _ _ _ (by omega)] at s2
   have ho := Zsk t (2 * w * j) (2 * w * j + w) n (by omega) hm2 (by omega) (by omega) s1 s2'
   obtain ⟨f1, f2, f3, f4, f5⟩ := Zeh t (2 * w * j) n (by omega) (by omega)
   refine ⟨((n : Int), ((2 * w : Nat) : Int), Zc1 t (2 * w * j) n, ()), ?_, ⟨2 * w, _, rfl, by omega, by omega, by omega, f2.trans (k4.trans h3), fun i => ?_⟩, by simp only; omega⟩
   ·simp only [Zed, RT.val, d, e0, hr, hr2, okB, getO, cond_true, e1, d2, ho, e2, Bool.not_true, Bool.false_or, Bool.or_true, Int.toNat_natCast]
   ·rcases Nat.lt_trichotomy i j with hij | hij | hij
    ·have : 2 * w * i + 2 * w ≤ 2 * w * j := by
      have := Nat.mul_le_mul_left (2 * w) (show i + 1 ≤ j by omega)
      rw [Nat.mul_add] at this; omega
     rw [f3 _ _ this]; exact k5 i hij
    ·subst hij
     rw [Zox _ _ _ (by omega), ← Zox _ _ n (by omega), f5]; exact Zbu _
    ·rw [ZEv _ _ _ (by have := tail i hij; omega)]; exact List.Pairwise.nil
  ·have d2 : decide (((2 * w * j + w : Nat) : Int) < (n : Int)) = false := decide_eq_false (fun h => hm2 (Int.ofNat_lt.1 h))
   refine ⟨((n : Int), ((2 * w : Nat) : Int), t, ()), ?_, ⟨2 * w, _, rfl, by omega, by omega, by omega, k4.trans h3, fun i => ?_⟩, by simp only; omega⟩
   ·simp only [Zed, RT.val, d, e0, hr, hr2, okB, getO, cond_true, cond_false, e1, d2, e2, Bool.not_true, Bool.not_false, Bool.true_or, Bool.false_or, Bool.or_true, Int.toNat_natCast]
   ·rcases Nat.lt_trichotomy i j with hij | hij | hij
    ·exact k5 i hij
    ·subst hij
     rw [Zox _ _ _ (by omega)]
     rwa [Zox _ _ _ (by omega)] at s1
    ·rw [ZEv _ _ _ (by have := tail i hij; omega)]; exact List.Pairwise.nil
 ·right; left
  have d : decide ((w : Int) < (n : Int)) = false := by simpa using hb
  refine ⟨((n : Int), (w : Int), s, ()), by simp only [Zed, RT.val, d, cond_false], ?_⟩
  have := h4 0
  rw [Zox _ _ _ (by omega)] at this
  exact (ZfN (by simpa using this) h3).symm
theorem ZJK (L : List Cell) (hm : L.length ≤ most) : (Zsf L L.length).val = some (isort L) := by
 have hms := mst
 obtain ⟨r, hr, j, s, hr2, k1, k2, k3, k4, k5⟩ := loop0 L hm
 have hok := Znn s (20 * j) L.length k1 (by omega) (by omega)
 obtain ⟨f1, f2, f3, f4, f5⟩ := Zeh s (20 * j) L.length k1 (by omega)
 obtain ⟨q, hq, hq2⟩ := loop2 (Zc1 s (20 * j) L.length) L.length (by omega) (by omega) (fun i => by
  rcases Nat.lt_trichotomy i j with hij | hij | hij
  ·rw [f3 _ _ (by omega)]; exact k5 i hij
  ·subst hij
   rw [Zox _ _ _ (by omega), ← Zox _ _ L.length (by omega), f5]; exact Zbu _
  ·rw [ZEv _ _ _ (by omega)]; exact List.Pairwise.nil)
 have hfin : isort (Zc1 s (20 * j) L.length) = isort L := Zms (f2.trans k4)
 simp only [Zsf, ZcO, RT.val, hr, hr2, okB, getO, cond_true, hok, Int.toNat_natCast, hq, hq2, hfin]
def ZjO (l : List Cell) (n : Int) : Bool := decide (n = l.length) && Nat.ble l.length most
def ZD5 : Entry := stE Zom Zon 185 Zux (fun a => some (ZjO a.1 a.2)) (fun a => isort a.1)
theorem ZD4 : Zc Tryz.prog 243 ZD5 := ZeT ZJx fun a h1 h2 hp => by
 obtain ⟨l, n⟩ := a
 have hp : ZjO l n = true := by cases h : ZjO l n <;> simp_all
 simp only [ZjO, Bool.and_eq_true, decide_eq_true_eq, Nat.ble_eq] at hp
 obtain ⟨rfl, p2⟩ := hp
 have := ZJK l p2
 simp only [ZLQ, ZPL]
 rw [this]
 simp [okB, getO]
end
end Go.Proofs.YtghoimllhpjkjaaGreat
open Go.IntKind (u8 u16 i64)
set_option linter.unusedVariables false
set_option linter.unusedSimpArgs false
open Go Go.S3 Go.Proofs
set_option maxRecDepth 100000
namespace Go.Proofs.YtghoimllhpjkjaaGreat
noncomputable section
abbrev ZmQ : Entry := Zuo (R.pair (R.int u16) (R.int u8)) ZjJ
theorem ZmP : Zc Tryz.prog 183 ZmQ :=
 ZDI (P := Tryz.prog) (n := 15) (k := 8) (l := []) (ol := []) trivial Tryz.func183 rfl (by kernel_rfl) Tryz.call183 trivial
  (fun m => ⟨{ chk := none, v := .w (.one .nilsl), m := m, bd := [], sd := [] }, by kernel_rfl, rfl, rfl⟩)
  (fun m l h => ⟨{ chk := none, v := .w (.one (.tip (len m.stgs) 0)), m := { m with stgs := m.stgs ++ [ZiR (R.pair (R.int u16) (R.int u8)) ZjJ l] }, bd := [], sd := [] }, by
   have e : (ZN (envX Tryz.prog [] [] 15 8) Tryz.f183 [.w (.one (.lst (R.pair (R.int u16) (R.int u8)) false false true l))] m).val = cond (Nat.ble ([] ++ l).length most) (some { chk := none, v := .w (.one (.tip (len m.stgs) 0)), m := { m with stgs := m.stgs ++ [ZiR (R.pair (R.int u16) (R.int u8)) ZjJ ([] ++ l)] }, bd := [], sd := [] }) none := by kernel_rfl
   rw [e, List.nil_append, h]; rfl, rfl, rfl⟩)
end
end Go.Proofs.YtghoimllhpjkjaaGreat
open Go.IntKind (u8 u16 i64)
set_option linter.unusedSimpArgs false
open Go Go.S3 Go.Proofs
set_option linter.unusedVariables false
set_option maxRecDepth 100000
namespace Go.Proofs.YtghoimllhpjkjaaGreat
noncomputable section
abbrev ZjG : R := R.pair (R.int u16) (R.int u8)
abbrev ZjH : Nat := 106
abbrev ZD6 : List Sh := []
def Zsg (s : List (Int × Int)) : RT (Option (List (Int × Int))) :=
 .br (ZjO (Stg.l (ZcO ZjG ZjH s)) (iN (List.length (Stg.l (ZcO ZjG ZjH s))))) (.leaf (some (Cells.isort (Stg.l (ZcO ZjG ZjH s))))) (.leaf none)
def Zuy (s : List (Int × Int)) : List (Int × Int) := getO [] (Zsg s).val
def ZyG (s : List (Int × Int)) : Bool := okB (Zsg s).val
def ZyF : Entry := stE ZjG ZjH 185 ZD6 (fun a => some (ZyG a.1 )) (fun a => Zuy a.1 )
theorem ZyE : Zc Tryz.prog 184 ZyF :=
 ZjP (P := Tryz.prog) (n := 15) (k := 8) (l := [(243, ZD5), (185, Zat)]) (ol := []) ⟨ZD4, Zas, trivial⟩ Tryz.func184 rfl (by kernel_rfl) Tryz.call184 trivial (r := ZjG) (T := ZjH) (g0 := 185) (ts := ZD6) (t := fun a => Zsg a.1 ) (fun a => by kernel_rfl)
abbrev Zx3 : List Sh := [Sh.one rcCE]
abbrev ZrD : Rs := Rs.one (Sh.one rcCE)
def ZLd : LS := { n := 45, slots := [(3, .tip 0), (4, .tip 1), (11, .tip 0), (12, .code (Sh.one (R.int i64))), (13, .code (Sh.one (R.int i64)))], boxes := [], stgs := [⟨R.pair (R.int u16) (R.int u8), 106, true⟩, ⟨(R.pair (R.int u16) (R.int u8)), 106, true⟩] }
def Zhd (a : QT25) : RT (Option (Go1 (QT25))) :=
 let x1 := (R.get (R.pair (R.int u16) (R.int u8)) a.2.2.1 a.2.1).2 != 0
 let x2 := i64.wrap (a.2.1 + 1) == iN (List.length a.2.2.1)
 let x3 := !x1 || (x2 || Zf (i64.wrap (a.2.1 + 1)) (List.length a.2.2.1))
 let x4 := x1 && (x2 || (R.get (R.pair (R.int u16) (R.int u8)) a.2.2.1 (i64.wrap (a.2.1 + 1))).1 != (R.get (R.pair (R.int u16) (R.int u8)) a.2.2.1 a.2.1).1)
 let x5 : List (Int × Int) := a.2.2.2.1 ++ [R.get (R.pair (R.int u16) (R.int u8)) a.2.2.1 a.2.1]
 .br (decide (a.2.1 < a.1)) (.br (!Zf a.2.1 (List.length a.2.2.1) || (!x3 || (!x4 || Nat.ble (List.length x5) most))) (.br (!Zf a.2.1 (List.length a.2.2.1) || x3) (.br (Zf a.2.1 (List.length a.2.2.1)) (.leaf (some (Go1.cont (a.1, i64.wrap (a.2.1 + 1), a.2.2.1, bif x4 then x5 else a.2.2.2.1, PUnit.unit)))) (.leaf none)) (.leaf none)) (.leaf none)) (.leaf (some (Go1.brk (a.1, a.2.1, a.2.2.1, a.2.2.2.1, PUnit.unit))))
def ZAo : Ora := Zbt false ZLd Zhd (fun a => (a.1 - a.2.1).toNat + 1)
theorem ZDr : Za3 (envX Tryz.prog [(183, ZmQ), (184, ZyF), (185, Zat)] [] 127 8) (.block 0 (.loop (Zab Tryz.f117.body 0))) ZAo :=
 ZB (ZI (l := [(183, ZmQ), (184, ZyF), (185, Zat)]) ⟨ZmP, ZyE, Zas, trivial⟩ [] 127 8) (Zp (by kernel_rfl)) (fun a => by kernel_rfl)
def ZtT (l : List (Int × Int)) : RT (Option (List (Int × Int))) :=
 let x1 := runF false Zhd (fun a => Int.toNat (a.1 - a.2.1) + 1) (iN (List.length (Zuy l)), 0, Zuy l, [], ())
 .br (Nat.ble (List.length l) most) (.br (ZyG l) (.br (okB x1) (.leaf (some (getO (false, iN (List.length (Zuy l)), 0, Zuy l, [], ()) x1).2.2.2.2.1)) (.leaf none)) (.leaf none)) (.leaf none)
def ZIg (l : List (Int × Int)) : List (Int × Int) := getO ZrD.dflt (ZtT l).val
def ZtU (l : List (Int × Int)) : Bool := okB (ZtT l).val
def ZIe : Entry := Zk Zx3 ZrD (fun a => some (ZtU a)) (fun a => ZIg a)
theorem ZrC : Zc Tryz.prog 117 ZIe :=
 pureP 127 [(183, ZmQ), (184, ZyF), (185, Zat)] [(0, ZAo)] Zx3 ZrD ⟨ZmP, ZyE, Zas, trivial⟩ Tryz.func117 Tryz.call117 ⟨ZDr, trivial⟩ (t := fun a => ZtT a) (fun a => by kernel_rfl)
abbrev ZAj : List Sh := [Sh.one rcCE]
abbrev Zry : Rs := Rs.one (Sh.one R.bool)
def ZIa : LS := { n := 31, slots := [(0, .code (Sh.one rcCE)), (2, .code (Sh.one R.bool)), (5, .code (Sh.one rcCE)), (6, .code (Sh.one (R.int i64))), (7, .code (Sh.one (R.int i64)))], boxes := [], stgs := [] }
def Zdu (a : List (Int × Int) × Bool × List (Int × Int) × Int × Int × PUnit) : RT (Option (Go1 (List (Int × Int) × Bool × List (Int × Int) × Int × Int × PUnit))) :=
 let x1 : Int × Int := R.get (R.pair (R.int u16) (R.int u8)) a.2.2.1 a.2.2.2.2.1
 let x2 := x1.2 == 0
 let x3 : List (Int × Int) × Int × Int × PUnit := (a.2.2.1, a.2.2.2.1, a.2.2.2.2.1, PUnit.unit)
 .br (decide (a.2.2.2.2.1 < a.2.2.2.1)) (.br (!Zf a.2.2.2.2.1 (List.length a.2.2.1) || (x2 || (!decide (a.2.2.2.2.1 > 0) || Zf (i64.wrap (a.2.2.2.2.1 - 1)) (List.length a.1)))) (.br (Zf a.2.2.2.2.1 (List.length a.2.2.1)) (.br (x2 || decide (a.2.2.2.2.1 > 0) && decide (x1.1 ≤ (R.get (R.pair (R.int u16) (R.int u8)) a.1 (i64.wrap (a.2.2.2.2.1 - 1))).1)) (.leaf (some (Go1.ret (a.1, false, x3)))) (.leaf (some (Go1.cont (a.1, a.2.1, a.2.2.1, a.2.2.2.1, i64.wrap (a.2.2.2.2.1 + 1), PUnit.unit))))) (.leaf none)) (.leaf none)) (.leaf (some (Go1.brk (a.1, a.2.1, x3))))
def ZtQ : Ora := Zbt true ZIa Zdu (fun a => 1000000000000)
theorem Zx1 : Za3 (envX Tryz.prog [] [] 31 8) (.block 0 (.loop (Zab Tryz.f294.body 0))) ZtQ :=
 ZB (ZI (l := []) trivial [] 31 8) (Zp (by kernel_rfl)) (fun a => by kernel_rfl)
def Zh3 (m : List (Int × Int)) : RT (Option (Bool)) :=
 let x1 := runF true Zdu (fun a => 1000000000000) (m, false, m, iN (List.length m), 0, ())
 let x2 := getO (false, m, false, m, iN (List.length m), 0, ()) x1
 .br (okB x1) (.br x2.1 (.leaf (some x2.2.2.1)) (.leaf (some (true)))) (.leaf none)
def Zmd (m : List (Int × Int)) : Bool := getO Zry.dflt (Zh3 m).val
def Zrz (m : List (Int × Int)) : Bool := okB (Zh3 m).val
def ZIb : Entry := Zk ZAj Zry (fun a => some (Zrz a)) (fun a => Zmd a)
theorem ZH9 : Zc Tryz.prog 294 ZIb :=
 pureP 31 [] [(0, ZtQ)] ZAj Zry trivial Tryz.func294 Tryz.call294 ⟨Zx1, trivial⟩ (t := fun a => Zh3 a) (fun a => by kernel_rfl)
end
end Go.Proofs.YtghoimllhpjkjaaGreat
