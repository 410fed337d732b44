/-
  slices.Insert and slices.Delete at cells (two numbers each): what they do to the memory. Conditions: none.
-/
import Derived.Test.YtfejikddclgkcaaS3Ins
import Derived.Test.YtfejikddclgkcaaProg
import Derived.Shelf.Spec.SlicesInsertGrow
set_option linter.unusedVariables false
set_option linter.unusedSimpArgs false
namespace Go.Proofs.Ytfejikddclgkcaa
open Go Go.S3 Go.Proofs Go.Shelf Go.RowKit Go.Lib
noncomputable section
set_option maxHeartbeats 4000000 in
set_option maxRecDepth 100000 in
/-- There is room, not at the end: in place. -/
theorem ins_shift (b n c i vb vc : Nat) (cs : List Value) (u0 u1 : Value) (w : World) (hi : i < n) (hroom : n + 1 ≤ c) (hc63 : c ≤ 9223372036854775807) (hvb : vb ≠ b) (hcl : cs.length = n * 2)
    (hcs : ∀ j v, cs[j]? = some v → w.cell? ⟨b, j, none⟩ = some v) (hsp : ∀ j, j < (n + 1) * 2 → (w.cell? ⟨b, j, none⟩).isSome = true) (hfz : ∀ j, j < (n + 1) * 2 → w.frozen? ⟨b, j, none⟩ = false)
    (hvs : ∀ j v, [u0, u1][j]? = some v → w.cell? ⟨vb, j, none⟩ = some v) (h1c : ∀ v ∈ cs, v.oneCell' = true) (h1v : ∀ v ∈ [u0, u1], v.oneCell' = true)
    (tA tB : TypeId) (kA kB : Nat) (hsa : w.shape? vb = some (tA, kA)) (hsb : w.shape? b = some (tB, kB)) (hkB : kB ≠ 0) (hfa : w.frozen? ⟨vb, 0, none⟩ = false) (hfe : w.frozen? ⟨vb, kA, none⟩ = false) :
    Calls Try.prog 53 #[.slice (some ⟨b, 0, none⟩) n c, .int .i64 i, .slice (some ⟨vb, 0, none⟩) 1 vc] w fun e w' =>
      e = .returned (.slice (some ⟨b, 0, none⟩) (n + 1) c) ∧ w' = (w.drew.setCells b ((i + 1) * 2) (cs.drop (i * 2))).setCells b (i * 2) [u0, u1] := by
  have mixed : Try.prog.follows .mixedOrders = true := by kernel_rfl
  have u22 : Try.prog.underlying 22 = some (.slice 42) := by kernel_rfl
  have hz2 : ¬ ((i : Int) = (n : Int)) := by omega
  have hsz : (Try.prog.info? 42).map (·.size) = some 2 := by kernel_rfl
  have hov : ∀ lb cb, (callFunc 58 #[.slice (some ⟨vb, 0, none⟩) 1 vc, .slice (some ⟨b, (i + 1) * 2, none⟩) lb cb]).run Try.prog w = .ok (.value (.bool false)) w := fun lb cb => by
    rw [run_callFunc_extern Try.func58 (by kernel_rfl) (by kernel_rfl) (by kernel_rfl) (e := Extern.SlicesOverlaps.overlaps #[22, 22] #[4]) (by kernel_rfl),
      Lib.run_overlaps_apart w 22 4 42 u22 2 (fun w => by rfl) ⟨vb, 0, none⟩ ⟨b, (i + 1) * 2, none⟩ 1 vc lb cb hvb tA tB kA kB hsa hsb hkB hfa hfe]
    rfl
  have hdl : (cs.drop (i * 2)).length = (n - i) * 2 := by rw [List.length_drop, hcl]; omega
  have hw1 : IntKind.i64.wrap ((i : Int) + 1) = (i : Int) + 1 := by rw [IntKind.wrap_i64]; omega
  have hw2 : IntKind.i64.wrap ((n : Int) + 1) = (n : Int) + 1 := by rw [IntKind.wrap_i64]; omega
  have hb1 : (0 : Int) ≤ (i : Int) + 1 := by omega
  have hin : i ≤ n := by omega
  have htn : ((i : Int) + 1).toNat = i + 1 := by omega
  have hb2 : ¬ (c = i + 1) := by omega
  have hb3 : (i : Int) ≤ (n : Int) + 1 := by omega
  have hb4 : ¬ (c = i) := by omega
  have hcp1 : ∀ ty dc sc, (Builtin.copy_ #[22, 22] ty #[.slice (some ⟨b, (i + 1) * 2, none⟩) (n - i) dc, .slice (some ⟨b, i * 2, none⟩) (n + 1 - i) sc]).run Try.prog w.drew = .ok (goInt (Nat.min (n + 1 - i) (n - i))) (w.drew.setCells b ((i + 1) * 2) (cs.drop (i * 2))) := fun ty dc sc =>
    run_copy_cellsN w.drew _ _ ty 42 2 b ((i + 1) * 2) (n - i) dc ⟨b, i * 2, none⟩ (n + 1 - i) sc (cs.drop (i * 2)) u22 hsz (by rw [hdl]; simp only [Nat.min_def]; split <;> omega)
      (fun j v hj => by rw [Addr.add_lit]; exact hcs (i * 2 + j) v (by rwa [List.getElem?_drop] at hj))
      (fun j hj => by exact hsp _ (by omega)) (fun j hj => by exact hfz _ (by omega)) (fun v hv => h1c v (List.mem_of_mem_drop hv))
  obtain ⟨W1, hW1⟩ : ∃ W1, W1 = w.drew.setCells b ((i + 1) * 2) (cs.drop (i * 2)) := ⟨_, rfl⟩
  have hsp1 : ∀ k, k < (n + 1) * 2 → (W1.cell? ⟨b, k, none⟩).isSome = true := fun k hk => by
    rw [hW1]
    exact isSome_setCells b (cs.drop (i * 2)) ((i + 1) * 2) w.drew (fun j hj => hsp _ (by omega)) _ (hsp k hk)
  have hcp2 : ∀ (W : World), (∀ x, W.cell? x = W1.cell? x) → (∀ x, W.frozen? x = W1.frozen? x) → ∀ ty dc, (Builtin.copy_ #[22, 22] ty #[.slice (some ⟨b, i * 2, none⟩) (n + 1 - i) dc, .slice (some ⟨vb, 0, none⟩) 1 vc]).run Try.prog W = .ok (goInt (Nat.min 1 (n + 1 - i))) (W.setCells b (i * 2) [u0, u1]) := fun W hWc hWf ty dc =>
    run_copy_cellsN W _ _ ty 42 2 b (i * 2) (n + 1 - i) dc ⟨vb, 0, none⟩ 1 vc [u0, u1] u22 hsz (by simp only [Nat.min_def, List.length_cons, List.length_nil]; split <;> omega)
      (fun j v hj => by
        rw [Addr.add_lit, Nat.zero_add, hWc, hW1, World.cell?_setCells_out b _ _ _ _ (fun h _ => absurd h hvb)]
        exact hvs j v hj)
      (fun j hj => by rw [hWc]; simp only [List.length_cons, List.length_nil] at hj; exact hsp1 _ (by omega)) (fun j hj => by rw [hWf, hW1, World.frozen?_setCells]; simp only [List.length_cons, List.length_nil] at hj; exact hfz _ (by omega)) h1v
  rw [← hW1] at hcp1
  go_enter Try.func53, Try.ntmps53
  go_wp2_with (simp only [hov])
  go_region_law_o (refine step_copy_runI rfl _ _ 22 22 rfl _ _ (by simp [Act.eval, Act.put]) (by simp [Act.eval, Act.put]) (hcp1 _ _ _) ?_)
  go_wp2_with (at_builtin; refine wpList_copy_runI _ rfl _ _ 22 22 rfl _ _ rfl rfl (hcp2 _ (fun _ => rfl) (fun _ => rfl) _ _) ?_)
  go_ret
  first | exact ⟨rfl, rfl⟩ | exact ⟨rfl, by rw [hW1]⟩

set_option maxHeartbeats 4000000 in
set_option maxRecDepth 100000 in
/-- At the end, there is room. -/
theorem ins_end_room (b n c vb vc : Nat) (u0 u1 : Value) (w : World) (hroom : n + 1 ≤ c) (hc63 : c ≤ 9223372036854775807)
    (hsp : ∀ j, j < 2 → (w.cell? ⟨b, n * 2 + j, none⟩).isSome = true) (hfz : ∀ j, j < 2 → w.frozen? ⟨b, n * 2 + j, none⟩ = false)
    (hvs : ∀ j v, [u0, u1][j]? = some v → w.cell? ⟨vb, j, none⟩ = some v) (h1v : ∀ v ∈ [u0, u1], v.oneCell' = true) :
    Calls Try.prog 53 #[.slice (some ⟨b, 0, none⟩) n c, .int .i64 n, .slice (some ⟨vb, 0, none⟩) 1 vc] w fun e w' =>
      e = .returned (.slice (some ⟨b, 0, none⟩) (n + 1) c) ∧ w' = w.setCells b (n * 2) [u0, u1] := by
  have mixed : Try.prog.follows .mixedOrders = true := by kernel_rfl
  have u22 : Try.prog.underlying 22 = some (.slice 42) := by kernel_rfl
  obtain ⟨i0, hi0, hzs⟩ : ∃ i0, Try.prog.info? 42 = some i0 ∧ i0.size = 2 := ⟨_, rfl, by kernel_rfl⟩
  have hsrc : Src Try.prog i0.size 22 (.slice (some ⟨vb, 0, none⟩) 1 vc) 1 [u0, u1] w := Src.ofSlice w u22 ⟨vb, 0, none⟩ 1 vc [u0, u1] (by rw [hzs]; rfl) (fun j u hj => by rw [Addr.add_lit, Nat.zero_add]; exact hvs j u hj) h1v
  have hrun : ∀ ty, (Builtin.append_ #[22, 22] ty #[.slice (some ⟨b, 0, none⟩) n c, .slice (some ⟨vb, 0, none⟩) 1 vc]).run Try.prog w = .ok (.slice (some ⟨b, 0, none⟩) (n + 1) c) (w.setCells b (n * 2) [u0, u1]) := fun ty => by
    have := run_append_room_src (P := Try.prog) w 22 22 ty 42 i0 u22 hi0 b 0 n c _ 1 [u0, u1] hsrc hroom (by rw [hzs, Nat.zero_add]; exact hsp) (by rw [hzs, Nat.zero_add]; exact hfz)
    rwa [hzs, Nat.zero_add] at this
  clear hsrc hsp hfz hvs
  go_enter Try.func53, Try.ntmps53
  go_wp2_with (at_builtin; refine Lib.wpList_append_run _ rfl _ _ _ _ rfl _ _ rfl rfl _ _ (hrun _) ?_)
  go_ret
  exact ⟨rfl, rfl⟩

set_option maxHeartbeats 4000000 in
set_option maxRecDepth 100000 in
/-- At the end, no room (a nil slice among these): a new row. -/
theorem ins_end_grow (base : Option Addr) (n c vb vc : Nat) (cs : List Value) (u0 u1 : Value) (w : World) (hnc : n ≤ c) (hroom : c < n + 1) (hbig : n + 1 ≤ most)
    (hcl : cs.length = n * 2) (hnil : base = none → n = 0) (hz : ∀ i, Try.prog.info? 42 = some i → i.zero = some (.agg #[.int .u16 0, .int .u8 0]))
    (hcs : ∀ a, base = some a → ∀ j v, cs[j]? = some v → w.cell? (a.add j) = some v)
    (hvs : ∀ j v, [u0, u1][j]? = some v → w.cell? ⟨vb, j, none⟩ = some v) (h1v : ∀ v ∈ [u0, u1], v.oneCell' = true) :
    Calls Try.prog 53 #[.slice base n c, .int .i64 n, .slice (some ⟨vb, 0, none⟩) 1 vc] w fun e w' =>
      e = .returned (.slice (some ⟨w.heap.size, 0, none⟩) (n + 1) (grownCap w (n + 1) c 42)) ∧
      w' = w.drew.alloc (.cells ((cs ++ [u0, u1]).toArray ++ Builtin.zeroCells #[Value.int .u16 0, Value.int .u8 0] (grownCap w (n + 1) c 42 - (n + 1))) 42) := by
  have mixed : Try.prog.follows .mixedOrders = true := by kernel_rfl
  have u22 : Try.prog.underlying 22 = some (.slice 42) := by kernel_rfl
  obtain ⟨i0, hi0, hzs, hzb⟩ : ∃ i0, Try.prog.info? 42 = some i0 ∧ i0.size = 2 ∧ i0.bytes = 4 := ⟨_, rfl, by kernel_rfl, by kernel_rfl⟩
  have hz0 := hz i0 hi0
  have hmost : most ≤ 1073741824 := by decide
  have hsrc : Src Try.prog i0.size 22 (.slice (some ⟨vb, 0, none⟩) 1 vc) 1 [u0, u1] w := Src.ofSlice w u22 ⟨vb, 0, none⟩ 1 vc [u0, u1] (by rw [hzs]; rfl) (fun j u hj => by rw [Addr.add_lit, Nat.zero_add]; exact hvs j u hj) h1v
  have hold : (Builtin.firstCells i0.size n (.slice base n c)).run Try.prog w.drew = .ok cs.toArray w.drew := by
    cases base with
    | none =>
      have h0 := hnil rfl
      subst h0
      have h0c : cs = [] := List.length_eq_zero_iff.1 (by omega)
      rw [h0c]
      exact run_firstCells_none w.drew _ 0 0 c
    | some a => exact run_firstCells_some w.drew _ n a n c cs (by rw [hzs]; exact hcl) (fun j v hj => hcs a rfl j v hj)
  have hrun : ∀ ty, (Builtin.append_ #[22, 22] ty #[.slice base n c, .slice (some ⟨vb, 0, none⟩) 1 vc]).run Try.prog w = _ := fun ty =>
    run_append_grow_src w 22 22 ty 42 i0 _ u22 hi0 hz0 base n c cs hold _ 1 [u0, u1] hsrc hroom (by omega) (by rw [hzb]; exact growslice_fits hroom (by omega))
  clear hsrc hold hvs hz
  go_enter Try.func53, Try.ntmps53
  cases base with
  | none =>
    have h0 := hnil rfl
    subst h0
    go_wp2_with (at_builtin; refine Lib.wpList_append_run _ rfl _ _ _ _ rfl _ _ rfl rfl _ _ (hrun _) ?_)
    go_ret
    exact ⟨rfl, rfl⟩
  | some a =>
    obtain ⟨ab, ao, asp⟩ := a
    go_wp2_with (at_builtin; refine Lib.wpList_append_run _ rfl _ _ _ _ rfl _ _ rfl rfl _ _ (hrun _) ?_)
    all_goals (go_ret; exact ⟨rfl, rfl⟩)
end
end Go.Proofs.Ytfejikddclgkcaa
