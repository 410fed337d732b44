/-
  memory.Get: the last byte at an address. Conditions: none.
-/
import Derived.Test.YtfejikddclgkcaaGetC
set_option linter.unusedVariables false
set_option linter.unusedSimpArgs false
namespace Go.Proofs.Ytfejikddclgkcaa
open Go Go.S3 Go.Proofs Go.Proofs.Cells Go.RowKit Go.Shelf
attribute [local go_sem] Oper.semAt_some
noncomputable section
set_option maxRecDepth 100000 in
set_option maxHeartbeats 2000000 in
theorem get_in (F : Fence) (n : Nat) (h4 : F.fn 19) (h6 : F.fn 45) (h8 : F.fn 55) (hro : F.round = none) (hn : 3 ≤ n) (a : Option Addr) (len cap : Nat) (l : List Cell) (t : Int) (hreach : l.length ≤ 1073741824)
    (w : World) (hI : Held w.heap.size w (.slice a len cap) l) :
    CallsIn F n Try.prog 19 #[.slice a len cap, .int .u16 t] w fun e W' => e = .returned (.int .u8 (getX l t)) ∧ Below w.heap.size w W' := by
  have h1 : 1 ≤ n := by omega
  refine callsIn_of_wp_marks Try.func19 rfl h4 ?_ hro
  simp only [Try.ntmps19, List.size_toArray, List.length_cons, List.length_nil, Nat.reduceAdd, Nat.reduceSub, Array.replicate_succ, Array.replicate_zero, List.push_toArray, List.append_toArray, List.nil_append, List.cons_append]
  gi_wp2_with (gi_at_call 45; refine (back_in F (n - 1) h6 hro _ _ _ _).mono ?_; rintro e w' ⟨rfl, rfl⟩)
  have bT := Boxed.new w 24 (.int .u16 t)
  have bR := Boxed.new (w.alloc (.cells #[.int .u16 t] 24)) 5 (.int .u8 0)
  have bN := Boxed.new ((w.alloc (.cells #[.int .u16 t] 24)).alloc (.cells #[.int .u8 0] 5)) 22 (.slice a len cap)
  rw [World.size_alloc] at bR bN
  rw [World.size_alloc] at bN
  have hB0 : Below w.heap.size w (((w.alloc (.cells #[.int .u16 t] 24)).alloc (.cells #[.int .u8 0] 5)).alloc (.cells #[.slice a len cap] 22)) := (((Below.refl _ w).alloc (Nat.le_refl _) _).alloc (by simp) _).alloc (by simp; omega) _
  refine wpIn_rangeFunc_ownH hro h1 (gf := 55) (lb := #[.pointer (some ⟨w.heap.size + 2, 0, none⟩)]) rfl h8 (enters_of Try.func55 (by kernel_rfl) rfl)
    (back_stops F (n - 1) h8 hro (by omega) (w.heap.size + 2) (w.heap.size + 3) _ l hreach _ (by omega) (by simp) bN.cell ?held) belowK_t (belowK_b (by simp)) (Below.refl _ _) (fun _ => rfl)
    (fun pre W => ((∀ p ∈ pre, p.2.1 ≠ t) ∧ W.cell? ⟨w.heap.size, 0, none⟩ = some (.int .u16 t) ∧ W.cell? ⟨w.heap.size + 1, 0, none⟩ = some (.int .u8 0) ∧ W.frozen? ⟨w.heap.size + 1, 0, none⟩ = false ∧ w.heap.size + 3 ≤ W.heap.size) ∧ Below w.heap.size w W)
    (fun c pre W => (c = .ret ∧ ∃ ini last, pre = ini ++ [last] ∧ (∀ p ∈ ini, p.2.1 ≠ t) ∧ last.2.1 = t ∧ W.cell? ⟨w.heap.size + 1, 0, none⟩ = some (.int .u8 last.2.2)) ∧ Below w.heap.size w W)
    (OwnFrom.and (Own.from (fun s A B row hs hg hr => ⟨hs.1, cell_kept hs.2.1 hg hr, cell_kept hs.2.2.1 hg hr, (frozen_kept hs.2.2.1 hg hr).trans hs.2.2.2.1, Nat.le_trans hs.2.2.2.2 hg.size⟩) _) (ownFrom_below (Nat.le_refl _) (by simp; omega)))
    (fun c => OwnFrom.and (Own.from (fun s A B row hs hg hr => by obtain ⟨hc, ini, last, e1, e2, e3, e4⟩ := hs; exact ⟨hc, ini, last, e1, e2, e3, cell_kept e4 hg hr⟩) _) (ownFrom_below (Nat.le_refl _) (by simp; omega)))
    ⟨⟨by simp, ((bT.alloc _).alloc _).cell, (bR.alloc _).cell, (bR.alloc _).frozen, by simp⟩, hB0⟩
    (fun x a' W => ∃ B, W.cell? ⟨B, 0, none⟩ = some (.int .u16 x.2.1) ∧ W.cell? ⟨B, 1, none⟩ = some (.int .u8 x.2.2) ∧
      a' = { tmps := #[.slice a len cap, .int .u16 t, undef, .pointer (some ⟨w.heap.size, 0, none⟩), .pointer (some ⟨w.heap.size + 1, 0, none⟩), undef, .pointer (some ⟨B, 0, none⟩), .slice a len cap, .func (.func 55) #[] #[.pointer (some ⟨w.heap.size + 2, 0, none⟩)], .int .i64 (x.1 : Int), .agg #[.int .u16 x.2.1, .int .u8 x.2.2], undef, undef, undef, undef, undef, undef], defers := [] })
    (fun x a' => Own.from (fun s A B row hs hg hr => by obtain ⟨b, e2, e3, e4⟩ := hs; exact ⟨b, cell_kept e2 hg hr, cell_kept e3 hg hr, e4⟩) _)
    ?assign ?body ?done ?stop
  case held => exact (hI.below hB0).mono (by omega)
  case assign =>
    rintro y pre x W K ⟨⟨hp, hct, hcr, hfr, hsz⟩, hB⟩ hK
    gi_wp2
    have hn1 : ∀ o : Obj, (W.alloc o).heap[W.heap.size]? = some o := fun o => World.alloc_heap_new W o
    refine hK _ _ ((KeepsOthers.alloc W _).from _) ((Below.refl _ W).alloc hsz _) ⟨⟨hp, ?_, ?_, ?_, by simp; omega⟩, hB.alloc (by omega) _⟩ ⟨W.heap.size, ?_, ?_, rfl⟩
    · exact cell_kept hct (World.grownBy_alloc W _ none) (fun r e => by cases e)
    · exact cell_kept hcr (World.grownBy_alloc W _ none) (fun r e => by cases e)
    · exact (frozen_kept hcr (World.grownBy_alloc W _ none) (fun r e => by cases e)).trans hfr
    · simp only [World.cell?]; rw [hn1]; rfl
    · simp only [World.cell?]; rw [hn1]; rfl
  case body =>
    rintro y pre x a' W hy hl ⟨⟨hp, hct, hcr, hfr, hsz⟩, hB⟩ ⟨B, hB2, hB3, rfl⟩ _
    gi_wp2
    · have hx : x.2.1 = t := by simpa using (by assumption : (x.2.1 == t) = true)
      exact ⟨(KeepsOthers.setCell _ _ _).from _, ⟨rfl, pre, x, rfl, hp, hx, World.cell?_setCell_same' _ _ _ (by rw [hcr]; rfl)⟩, hB.setCell (p := ⟨w.heap.size + 1, 0, none⟩) (by simp) _⟩
    · have hx : x.2.1 ≠ t := by simpa using (by assumption : (x.2.1 == t) = false)
      exact ⟨KeepsFrom.refl _ _, Below.refl _ _, ⟨fun p hp' => (List.mem_append.1 hp').elim (hp p) (fun e => by simp at e; subst e; exact hx), hct, hcr, hfr, hsz⟩, hB⟩
  case done =>
    rintro D ys W hD rfl ⟨⟨hne, hct, hcr, hfr, hsz⟩, hB⟩ hK
    gi_wp2
    have hK' := (KeepsOthers.setCell W ⟨w.heap.size + 1, 0, none⟩ (.int .u8 0)).same D _ hK rfl
    refine ⟨by simp, .inl ⟨_, _, rfl, run_takeDeferred hK', ?_⟩⟩
    have hc5 := cell_kept (World.cell?_setCell_same' W ⟨w.heap.size + 1, 0, none⟩ (.int .u8 0) (by rw [hcr]; rfl)) (grownBy_putObj' _ D (.deferred none)) (fun r e => by cases e; exact ⟨_, hK', rfl⟩)
    have h0 : getX l t = 0 := getX_out fun c hc => by
      obtain ⟨i, hi, rfl⟩ := List.mem_iff_getElem.1 hc
      have e1 := el_get l i hi
      rw [List.getElem?_eq_getElem hi, Option.some.injEq] at e1
      rw [e1]
      refine hne (i, el l i) ?_
      simp only [bwL, List.mem_map, List.mem_range]
      exact ⟨l.length - 1 - i, by omega, by rw [show l.length - 1 - (l.length - 1 - i) = i by omega]⟩
    refine ⟨.int .u8 0, ?_, by rw [h0], (hB.setCell (p := ⟨w.heap.size + 1, 0, none⟩) (by simp) _).trans (belowK_b (w := w) (Nat.le_refl _) _ D _ _ (by simp at hD; omega) hK' rfl rfl)⟩
    simp [results, Try.f19, go_sem, hc5]
  case stop =>
    rintro D c pre W hD ⟨k, hk, rfl⟩ ⟨⟨rfl, ini, last, e1, e2, e3, hcr⟩, hB⟩ hK
    gi_wp2
    refine ⟨by simp, .inl ⟨_, _, rfl, run_takeDeferred hK, ?_⟩⟩
    have hc5 := cell_kept hcr (grownBy_putObj' _ D (.deferred none)) (fun r e => by cases e; exact ⟨_, hK, rfl⟩)
    obtain ⟨k', rfl⟩ : ∃ k', k = k' + 1 := by
      cases k with
      | zero => simp [bwL] at e1
      | succ k' => exact ⟨k', rfl⟩
    rw [bwL_succ] at e1
    obtain ⟨rfl, e5⟩ := List.append_inj' e1 rfl
    simp only [List.cons.injEq, and_true] at e5
    subst e5
    have hg : getX l t = (el l (l.length - 1 - k')).2 := getX_at (i := l.length - 1 - k') (by omega) e3 fun q h1 h2 => by
      refine e2 (q, el l q) ?_
      simp only [bwL, List.mem_map, List.mem_range]
      exact ⟨l.length - 1 - q, by omega, by rw [show l.length - 1 - (l.length - 1 - q) = q by omega]⟩
    refine ⟨.int .u8 (el l (l.length - 1 - k')).2, ?_, by rw [hg], hB.trans (belowK_b (w := w) (Nat.le_refl _) W D _ _ (by simp at hD; omega) hK rfl rfl)⟩
    simp [results, Try.f19, go_sem, hc5]
/-- The contract. -/
def mGetTs : List Sh := [.one (.sl (R.pair (R.int IntKind.u16) (R.int IntKind.u8))), .one (.int IntKind.u16)]
def mGetRs : Rs := .one (.one (R.int IntKind.u8))
def mGetE : Entry := pureE mGetTs mGetRs (fun a => some (Nat.ble (List.length (α := Cell) a.1) most)) (fun a => getX a.1 a.2)
theorem getX_in (l : List Cell) (h : ∀ c ∈ l, inR .u8 c.2) (t : Int) : inR .u8 (getX l t) := by
  by_cases hx : ∃ c ∈ l, c.1 = t
  · have hne : flt t l ≠ [] := by
      obtain ⟨c, hc, he⟩ := hx
      intro h0
      have : c ∈ flt t l := by simp [flt, hc, he]
      rw [h0] at this; simp at this
    rw [getX]
    cases hq : (flt t l).getLast? with
    | none => exact absurd (List.getLast?_eq_none_iff.1 hq) hne
    | some c =>
      have := List.mem_of_getLast? hq
      simp only [flt, List.mem_filter] at this
      exact h c this.1
  · rw [getX_out fun c hc e => hx ⟨c, hc, e⟩]
    exact ⟨by decide, by decide⟩
theorem mGet_ok : EntryOk Try.prog 19 mGetE := by
  refine ⟨Try.call19, fun vs chk v hp hc x m w args hm hv => ?_⟩
  simp only at hp
  split at hp
  · rename_i a ha
    simp only [Option.some.injEq, Prod.mk.injEq] at hp
    obtain ⟨rfl, rfl⟩ := hp
    obtain ⟨hargs, hin⟩ := decVs_ok ha hv
    obtain ⟨l, t⟩ := a
    have hle : List.length (α := Cell) l ≤ most := by
      cases hb : Nat.ble (List.length (α := Cell) l) most with
      | true => simpa [Nat.ble_eq] using hb
      | false => rw [hb] at hc; exact absurd rfl hc
    have hmost : most ≤ 1073741824 := by decide
    match args, hargs with
    | [v0, v1], hargs =>
      have hv0 : RA x (.lst (R.pair (R.int IntKind.u16) (R.int IntKind.u8)) false false false l) v0 := hargs.1
      have hv1 : RA x (.int false .u16 t) v1 := hargs.2.1
      have hl8 : ∀ c ∈ (l : List Cell), inR .u8 c.2 := fun c hc => ((hin.1 : (R.sl (R.pair (R.int IntKind.u16) (R.int IntKind.u8))).ok l).2 c hc).2
      cases hv1
      obtain ⟨aa, len, cap, rfl, hheld⟩ : ∃ aa len cap, v0 = .slice aa len cap ∧ Held w.heap.size w (.slice aa len cap) l := by
        cases hv0 with
        | lst0 _ _ _ _ _ _ a cap h1 h2 h3 _ => exact ⟨a, 0, cap, rfl, .inl ⟨a, cap, rfl, h1⟩⟩
        | lst _ _ _ _ _ _ p o cap c h0 hf hcap hml hz hr =>
          refine ⟨_, _, cap, rfl, .inr ⟨p, o, cap, rfl, ?_, fun j hj => ?_⟩⟩
          · have hpos : 0 < List.length (α := Cell) l := List.length_pos_iff.2 h0
            exact hm.fz_lt (hz 0 0 _ hpos rfl)
          · have q1 := hm.fz _ _ _ (hz j 0 _ hj rfl)
            have q2 := hm.fz _ _ _ (hz j 1 _ hj rfl)
            have r1 := hr j 0 _ hj rfl
            have r2 := hr j 1 _ hj rfl
            generalize c j 0 = c0 at q1 r1
            generalize c j 1 = c1 at q2 r2
            cases r1; cases r2
            exact ⟨q1, q2⟩
      have key := get_in { fn := fun _ => True } 3 trivial trivial trivial rfl (Nat.le_refl _) aa len cap l t (by omega) w hheld
      refine (key.calls (fun k d hd => by simp at hd)).mono ?_
      rintro e w' ⟨rfl, hb⟩
      have hs : SameC w w' := ⟨⟨hb.size, fun k hk => hb.block k hk⟩, hb.os, hb.tape, hb.output⟩
      exact ⟨_, x, rfl, .int _ _ _ _ (getX_in l hl8 t), hm.old hs.1, .refl x, hs⟩
    | [], hargs => exact hargs.elim
    | [_], hargs => exact hargs.2.elim
    | _ :: _ :: _ :: _, hargs => exact hargs.2.2.elim
  · simp at hp
end
end Go.Proofs.Ytfejikddclgkcaa
