/-
  slices.Insert where a new row is made, and slices.Delete, at cells: what they do to the memory. Conditions: none.
-/
import Derived.Test.YtfejikddclgkcaaS3Ins
import Derived.Test.YtfejikddclgkcaaProg
import Derived.Shelf.Spec.SlicesInsertGrow
import Derived.Deep.RegionLaw
import Derived.Lib.SliceRun
set_option linter.unusedVariables false
set_option linter.unusedSimpArgs false
namespace Go.Proofs.Ytfejikddclgkcaa
open Go Go.S3 Go.Proofs Go.Shelf Go.RowKit Go.Lib
noncomputable section
set_option maxHeartbeats 4000000 in
set_option maxRecDepth 100000 in
/-- slices.Insert, not at the end, no room: a new row. -/
theorem ins_grow (b n c i vb vc : Nat) (cs : List Value) (u0 u1 : Value) (w : World) (hi : i < n) (hnc : n ≤ c) (hroom : c < n + 1) (hbig : n + 1 ≤ most)
    (hcl : cs.length = n * 2) (hz : ∀ i, Try.prog.info? 42 = some i → i.zero = some (.agg #[.int .u16 0, .int .u8 0]))
    (hcs : ∀ j v, cs[j]? = some v → w.cell? ⟨b, j, none⟩ = some v)
    (hvs : ∀ j v, [u0, u1][j]? = some v → w.cell? ⟨vb, j, none⟩ = some v) (h1c : ∀ v ∈ cs, v.oneCell' = true) (h1v : ∀ v ∈ [u0, u1], v.oneCell' = true) :
    Calls Try.prog 53 #[.slice (some ⟨b, 0, none⟩) n c, .int .i64 i, .slice (some ⟨vb, 0, none⟩) 1 vc] w fun e w' =>
      e = .returned (.slice (some ⟨w.heap.size, 0, none⟩) (n + 1) (grownCap w (n + 1) c 42)) ∧
      w' = (((w.alloc (.cells ((cs.take (i * 2)).toArray ++ Builtin.zeroCells #[Value.int .u16 0, Value.int .u8 0] (n + 1 - i) ++ Builtin.zeroCells #[Value.int .u16 0, Value.int .u8 0] (grownCap w (n + 1) c 42 - (n + 1))) 42)).drew.setCells w.heap.size (i * 2) [u0, u1]).drew).setCells w.heap.size ((i + 1) * 2) (cs.drop (i * 2)) := by
  have mixed : Try.prog.follows .mixedOrders = true := by kernel_rfl
  have u22 : Try.prog.underlying 22 = some (.slice 42) := by kernel_rfl
  have u3 : Try.prog.underlying 3 = some (.int .i64) := by kernel_rfl
  obtain ⟨i0, hi0, hzs, hzb⟩ : ∃ i0, Try.prog.info? 42 = some i0 ∧ i0.size = 2 ∧ i0.bytes = 4 := ⟨_, rfl, by kernel_rfl, by kernel_rfl⟩
  have hz0 := hz i0 hi0
  have hmost : most ≤ 1073741824 := by decide
  have hz2 : ¬ ((i : Int) = (n : Int)) := by omega
  have hz3 : (c : Int) < (n : Int) + 1 := by omega
  have hsz : (Try.prog.info? 42).map (·.size) = some 2 := by rw [hi0]; simp [hzs]
  have hbw : b < w.heap.size := block_lt_of_cell (hcs 0 _ (List.getElem?_eq_getElem (by omega)))
  have hvw : vb < w.heap.size := block_lt_of_cell (hvs 0 _ rfl)
  have hkk : (n : Int) + 1 - (i : Int) = ((n + 1 - i : Nat) : Int) := by omega
  have hik : i + (n + 1 - i) = n + 1 := by omega
  have hold : (Builtin.firstCells i0.size i (.slice (some ⟨b, 0, none⟩) i c)).run Try.prog w.drew = .ok (cs.take (i * 2)).toArray w.drew :=
    run_firstCells_some w.drew _ i ⟨b, 0, none⟩ i c (cs.take (i * 2)) (by rw [hzs, List.length_take]; omega) (fun j v hj => by
      rw [Addr.add_lit, Nat.zero_add]
      rw [List.getElem?_take] at hj
      split at hj
      · exact hcs j v hj
      · cases hj)
  have hrz : ∀ ty, (Builtin.append_ #[22, 3] ty #[.slice (some ⟨b, 0, none⟩) i c, .int .i64 ((n : Int) + 1 - (i : Int))]).run Try.prog w =
      .ok (.slice (some ⟨w.heap.size, 0, none⟩) (n + 1) (grownCap w (n + 1) c 42)) (w.drew.alloc (.cells ((cs.take (i * 2)).toArray ++ Builtin.zeroCells #[Value.int .u16 0, Value.int .u8 0] (n + 1 - i) ++ Builtin.zeroCells #[Value.int .u16 0, Value.int .u8 0] (grownCap w (n + 1) c 42 - (n + 1))) 42)) := fun ty => by
    have h := Lib.run_append_grow_zeros w 22 3 ty 42 i0 _ .i64 .i64 u22 u3 hi0 hz0 (some ⟨b, 0, none⟩) i c (cs.take (i * 2)) hold (n + 1 - i) (by omega) (by omega) (by omega) (by omega) (by rw [hzb]; omega) (by rw [hzb, hik]; exact growslice_fits hroom (by omega))
    rw [hik] at h
    rw [hkk]
    exact h
  obtain ⟨G, hG⟩ : ∃ G, G = grownCap w (n + 1) c 42 := ⟨_, rfl⟩
  obtain ⟨ROW, hROW⟩ : ∃ ROW : Array Value, ROW = (cs.take (i * 2)).toArray ++ Builtin.zeroCells #[Value.int .u16 0, Value.int .u8 0] (n + 1 - i) ++ Builtin.zeroCells #[Value.int .u16 0, Value.int .u8 0] (G - (n + 1)) := ⟨_, rfl⟩
  rw [← hG] at hrz ⊢
  rw [← hROW] at hrz ⊢
  have hRl : (n + 1) * 2 ≤ ROW.size := by
    rw [hROW]
    simp only [Array.size_append, List.size_toArray, List.length_take, size_zeroCells, List.length_cons, List.length_nil]
    omega
  obtain ⟨W1, hW1⟩ : ∃ W1, W1 = w.drew.alloc (.cells ROW 42) := ⟨_, rfl⟩
  rw [← hW1] at hrz
  have hN : ∀ j, j < (n + 1) * 2 → (W1.cell? ⟨w.heap.size, j, none⟩).isSome = true := fun j hj => by
    rw [hW1, World.cell?_alloc_at (w := w.drew) ROW _ w.heap.size j rfl, Array.getElem?_eq_getElem (by omega)]; rfl
  have hNf : ∀ j, W1.frozen? ⟨w.heap.size, j, none⟩ = false := fun j => by rw [hW1]; exact World.frozen?_alloc_at (w := w.drew) ROW _ w.heap.size j rfl
  have hOb : ∀ j v, w.cell? ⟨b, j, none⟩ = some v → W1.cell? ⟨b, j, none⟩ = some v := fun j v h => by rw [hW1, World.cell?_alloc_past (w := w.drew) _ b j hbw]; exact h
  have hOv : ∀ j v, w.cell? ⟨vb, j, none⟩ = some v → W1.cell? ⟨vb, j, none⟩ = some v := fun j v h => by rw [hW1, World.cell?_alloc_past (w := w.drew) _ vb j hvw]; exact h
  have hcpA : ∀ (W : World), (∀ x, W.cell? x = W1.cell? x) → (∀ x, W.frozen? x = W1.frozen? x) → ∀ ty dc, (Builtin.copy_ #[22, 22] ty #[.slice (some ⟨w.heap.size, i * 2, none⟩) (n + 1 - i) dc, .slice (some ⟨vb, 0, none⟩) 1 vc]).run Try.prog W = .ok (goInt (Nat.min 1 (n + 1 - i))) (W.setCells w.heap.size (i * 2) [u0, u1]) := fun W hWc hWf ty dc =>
    run_copy_cellsN W _ _ ty 42 2 w.heap.size (i * 2) (n + 1 - i) dc ⟨vb, 0, none⟩ 1 vc [u0, u1] u22 hsz (by simp only [Nat.min_def, List.length_cons, List.length_nil]; split <;> omega)
      (fun j v hj => by rw [Addr.add_lit, Nat.zero_add, hWc]; exact hOv _ v (hvs j v hj))
      (fun j hj => by rw [hWc]; simp only [List.length_cons, List.length_nil] at hj; exact hN _ (by omega)) (fun j hj => by rw [hWf]; exact hNf _) h1v
  have hGn : n + 1 ≤ G := by rw [hG]; exact grownCap_ge w _ _ _
  have hG63 : G ≤ 9223372036854775807 := by
    have := grownCap_le_maxLen w (n + 1) c 42 (by unfold maxLen; omega)
    rw [← hG] at this
    unfold maxLen at this
    omega
  have hGi : ¬ (G = i) := by omega
  have hGim : ¬ (G = i + 1) := by omega
  have hci : ¬ (c = i) := by omega
  have hbN : b ≠ w.heap.size := by omega
  have hdl : (cs.drop (i * 2)).length = (n - i) * 2 := by rw [List.length_drop, hcl]; omega
  have hcpB : ∀ (W : World), (∀ x, W.cell? x = (W1.setCells w.heap.size (i * 2) [u0, u1]).cell? x) → (∀ x, W.frozen? x = (W1.setCells w.heap.size (i * 2) [u0, u1]).frozen? x) → ∀ ty dc sc, (Builtin.copy_ #[22, 22] ty #[.slice (some ⟨w.heap.size, (i + 1) * 2, none⟩) (n - i) dc, .slice (some ⟨b, i * 2, none⟩) (n - i) sc]).run Try.prog W = .ok (goInt (Nat.min (n - i) (n - i))) (W.setCells w.heap.size ((i + 1) * 2) (cs.drop (i * 2))) := fun W hWc hWf ty dc sc =>
    run_copy_cellsN W _ _ ty 42 2 w.heap.size ((i + 1) * 2) (n - i) dc ⟨b, i * 2, none⟩ (n - i) sc (cs.drop (i * 2)) u22 hsz (by rw [hdl]; simp only [Nat.min_def]; split <;> omega)
      (fun j v hj => by
        rw [Addr.add_lit, hWc, World.cell?_setCells_out _ _ _ _ _ (fun h _ => absurd h hbN)]
        exact hOb _ v (hcs (i * 2 + j) v (by rwa [List.getElem?_drop] at hj)))
      (fun j hj => by rw [hWc]; exact isSome_setCells _ _ _ _ (fun t ht => by simp only [List.length_cons, List.length_nil] at ht; exact hN _ (by omega)) _ (hN _ (by omega)))
      (fun j hj => by rw [hWf, World.frozen?_setCells]; exact hNf _) (fun v hv => h1c v (List.mem_of_mem_drop hv))
  subst hW1
  have hE1 : ∀ x, ((w.alloc (.cells ROW 42)).drew).cell? x = (w.drew.alloc (.cells ROW 42)).cell? x := fun x => rfl
  have hE2 : ∀ x, ((w.alloc (.cells ROW 42)).drew).frozen? x = (w.drew.alloc (.cells ROW 42)).frozen? x := fun x => rfl
  have hF1 : ∀ x, (((w.alloc (.cells ROW 42)).drew.setCells w.heap.size (i * 2) [u0, u1]).drew).cell? x = ((w.drew.alloc (.cells ROW 42)).setCells w.heap.size (i * 2) [u0, u1]).cell? x := fun x => rfl
  have hF2 : ∀ x, (((w.alloc (.cells ROW 42)).drew.setCells w.heap.size (i * 2) [u0, u1]).drew).frozen? x = ((w.drew.alloc (.cells ROW 42)).setCells w.heap.size (i * 2) [u0, u1]).frozen? x := fun x => rfl
  have hw1 : IntKind.i64.wrap ((i : Int) + 1) = (i : Int) + 1 := by rw [IntKind.wrap_i64]; omega
  have hw2 : IntKind.i64.wrap ((n : Int) + 1) = (n : Int) + 1 := by rw [IntKind.wrap_i64]; omega
  have hb1 : (0 : Int) ≤ (i : Int) + 1 := by omega
  have hin : i ≤ n := by omega
  have htn : ((i : Int) + 1).toNat = i + 1 := by omega
  have hb3 : (i : Int) ≤ (n : Int) := by omega
  clear hkk hik hold hROW hG hRl hz hz0 hi0
  go_enter Try.func53, Try.ntmps53
  go_wp2_with (first
    | (at_builtin; refine Lib.wpList_append_run _ rfl _ _ _ _ rfl _ _ rfl rfl _ _ (hrz _) ?_)
    | (at_builtin; refine wpList_copy_runI _ rfl _ _ 22 22 rfl _ _ rfl rfl (hcpA _ hE1 hE2 _ _) ?_)
    | (at_builtin; refine wpList_copy_runI _ rfl _ _ 22 22 rfl _ _ rfl rfl (hcpB _ (fun _ => rfl) (fun _ => rfl) _ _ _) ?_))
  go_region_law_o (refine step_copy_runI rfl _ _ 22 22 rfl (.slice (some ⟨w.heap.size, (i + 1) * 2, none⟩) (n - i) (G - (i + 1))) (.slice (some ⟨b, i * 2, none⟩) (n - i) (c - i)) (by simp [Act.eval, Act.put]) (by simp [Act.eval, Act.put]) (hcpB _ hF1 hF2 3 (G - (i + 1)) (c - i)) ?_)
  go_wp2
  go_ret
  exact ⟨rfl, rfl⟩

set_option maxHeartbeats 4000000 in
set_option maxRecDepth 1000000 in
/-- slices.Delete of one element: in place. -/
theorem del_raw (b n c i : Nat) (cs : List Value) (z0 z1 : Value) (w : World) (hi : i < n) (hnc : n ≤ c) (hm : c ≤ 9223372036854775807) (hcl : cs.length = n * 2)
    (hz : ∀ w, (zeroValue 42).run Try.prog w = .ok (.agg #[.int .u16 0, .int .u8 0]) w) (hzs : (Builtin.zeroCells (Value.agg #[.int .u16 0, .int .u8 0]).cells 1).toList = [z0, z1]) (h1z : ∀ v ∈ [z0, z1], v.oneCell' = true)
    (hcs : ∀ j v, cs[j]? = some v → w.cell? ⟨b, j, none⟩ = some v) (hfz : ∀ j, j < n * 2 → w.frozen? ⟨b, j, none⟩ = false) (h1c : ∀ v ∈ cs, v.oneCell' = true) :
    Calls Try.prog 52 #[.slice (some ⟨b, 0, none⟩) n c, .int .i64 i, .int .i64 ((i : Int) + 1)] w fun e w' =>
      e = .returned (.slice (some ⟨b, 0, none⟩) (n - 1) c) ∧ w' = (w.drew.setCells b (i * 2) (cs.drop ((i + 1) * 2))).setCells b ((n - 1) * 2) [z0, z1] := by
  have mixed : Try.prog.follows .mixedOrders = true := by kernel_rfl
  have t22 : Try.prog.underlying 22 = some (.slice 42) := by kernel_rfl
  obtain ⟨i0, hi0, hz1⟩ : ∃ i0, Try.prog.info? 42 = some i0 ∧ i0.size = 2 := ⟨_, rfl, by kernel_rfl⟩
  obtain ⟨news, hnews⟩ : ∃ news, news = cs.drop ((i + 1) * 2) := ⟨_, rfl⟩
  have hlen : news.length = (n - (i + 1)) * 2 := by rw [hnews, List.length_drop, hcl]; omega
  obtain ⟨A, hA, hsrc⟩ : ∃ A : Addr, (if c = i + 1 then some (⟨b, 0, none⟩ : Addr) else some ⟨b, (i + 1) * 2, none⟩) = some A ∧ Hid (∀ t u, news[t]? = some u → w.drew.cell? (A.add t) = some u) := by
    by_cases h : c = i + 1
    · refine ⟨⟨b, 0, none⟩, by simp [h], fun t u hu => ?_⟩
      have h0 : news.length = 0 := by rw [hlen]; omega
      rw [List.length_eq_zero_iff.1 h0] at hu
      simp at hu
    · refine ⟨⟨b, (i + 1) * 2, none⟩, by simp [h], fun t u hu => ?_⟩
      rw [Addr.add_lit]
      rw [hnews, List.getElem?_drop] at hu
      exact hcs _ u hu
  have s1 : Hid (news.length = (n - (i + 1)) * 2) := hlen
  have s2 : Hid (∀ u ∈ news, u.oneCell' = true) := by
    intro u hu
    rw [hnews] at hu
    exact h1c u (List.mem_of_mem_drop hu)
  have hsome : ∀ j, j < n * 2 → (w.cell? ⟨b, j, none⟩).isSome = true := fun j hj => by
    rw [hcs j _ (List.getElem?_eq_getElem (by omega))]; rfl
  have s3 : Hid (∀ t, t < news.length → (w.drew.cell? ⟨b, 0 + i * 2 + t, none⟩).isSome = true ∧ w.drew.frozen? ⟨b, 0 + i * 2 + t, none⟩ = false) := by
    intro t ht
    rw [hlen] at ht
    rw [Nat.zero_add]
    exact ⟨hsome _ (by omega), hfz _ (by omega)⟩
  obtain ⟨W1, hW1⟩ : ∃ W1, W1 = w.drew.setCells b (0 + i * 2) news := ⟨_, rfl⟩
  have hsome1 : ∀ j, j < n * 2 → (W1.cell? ⟨b, j, none⟩).isSome = true := fun j hj => by
    rw [hW1]
    exact isSome_setCells b _ _ _ (fun t ht => by rw [hlen] at ht; rw [Nat.zero_add]; exact hsome _ (by omega)) _ (hsome j hj)
  have hcl : ∀ ty dc, (Builtin.clear_ #[22] ty #[.slice (some ⟨b, (i + (n - (i + 1))) * 2, none⟩) (n - (i + (n - (i + 1)))) dc]).run Try.prog W1 = .ok (.tuple #[]) (W1.setCells b ((i + (n - (i + 1))) * 2) [z0, z1]) := fun ty dc => by
    rw [show n - (i + (n - (i + 1))) = 1 by omega]
    exact run_clear_cells W1 _ _ ty (.agg #[.int .u16 0, .int .u8 0]) t22 hz b _ 1 dc (by omega) [z0, z1] hzs h1z (fun t ht => hsome1 _ (by simp only [List.length_cons, List.length_nil] at ht; omega)) (fun t ht => by rw [hW1, World.frozen?_setCells]; exact hfz _ (by simp only [List.length_cons, List.length_nil] at ht; omega))
  have hW : Hid (W1 = w.drew.setCells b (0 + i * 2) news) := hW1
  have hfin : w.drew.setCells b (i * 2) (cs.drop ((i + 1) * 2)) = W1 := by rw [hW1, hnews, Nat.zero_add]
  rw [hfin]
  have hic : i ≤ c := by omega
  have hjc : i + 1 ≤ c := by omega
  have hne : ¬ ((i : Int) = (i : Int) + 1) := by omega
  have hb5 : (i : Int) + 1 ≤ (n : Int) := by omega
  have htn : ((i : Int) + 1).toNat = i + 1 := by omega
  have hb1 : (0 : Int) ≤ (i : Int) + 1 := by omega
  clear hW1 hnews hlen hsome hsome1 hfin hcs hfz h1c
  go_enter Try.func52, Try.ntmps52
  go_wp2_with fail
  go_region_law_o (refine step_append_room rfl (.tmp 22) (.tmp 25) 22 rfl 42 i0 2 t22 hi0 hz1 b 0 i c (by simp [Act.eval, Act.put]) A (n - (i + 1)) (c - (i + 1)) news (by simp [Act.eval, Act.put]) s1.out hsrc.out s2.out (by omega) s3.out ?_; rw [← hW.out])
  go_wp2
  go_ret
  have hq : n - 1 = i + (n - (i + 1)) := by omega
  exact ⟨by rw [hq]; rfl, by rw [hq]⟩
end
end Go.Proofs.Ytfejikddclgkcaa
