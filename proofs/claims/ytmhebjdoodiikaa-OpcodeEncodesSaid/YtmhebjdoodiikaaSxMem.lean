/-
  Soundness of the symbolic executor, part 3: boxes. Conditions: none (lemmas).
-/
import Derived.Test.YtmhebjdoodiikaaSxOps2
import Derived.Laws.CopyRow
import Derived.Laws.Rows
namespace Go.Sx

theorem nth_append_left {α : Type} {l : List α} {n : Nat} {a b : α} (h : nth l n = some a) : nth (l ++ [b]) n = some a := by
  rw [nth_eq] at *
  have := (List.getElem?_eq_some_iff.1 h).1
  rw [List.getElem?_append_left this]; exact h
theorem nth_append_cases {α : Type} {l : List α} {n : Nat} {a b : α} (h : nth (l ++ [b]) n = some a) : nth l n = some a ∨ (n = l.length ∧ a = b) := by
  rw [nth_eq] at *
  rcases Nat.lt_trichotomy n l.length with h1 | h1 | h1
  · rw [List.getElem?_append_left h1] at h; exact .inl h
  · subst h1; simp at h; exact .inr ⟨rfl, h.symm⟩
  · rw [List.getElem?_eq_none (by simp; omega)] at h; simp at h
theorem nth_lt {α : Type} {l : List α} {n : Nat} {a : α} (h : nth l n = some a) : n < l.length := by
  rw [nth_eq] at h; exact (List.getElem?_eq_some_iff.1 h).1
theorem heap_lt {w : World} {k : Nat} {o : Obj} (h : w.heap[k]? = some o) : k < w.heap.size := (Array.getElem?_eq_some_iff.1 h).1

theorem MemOk.fz_lt {x : Ctx} {m : Mem} {w : World} (h : MemOk x m w) {b o : Nat} {v : Value} (e : x.fz b o = some v) : b < w.heap.size := by
  have := h.fz b o v e
  simp only [World.cell?] at this
  split at this
  · rename_i hb; exact heap_lt hb
  · simp at this
theorem MemOk.M_lt {x : Ctx} {m : Mem} {w : World} (h : MemOk x m w) {b p : Nat} (e : nth x.M b = some p) : p < w.heap.size := by
  have h1 := nth_lt e
  have h2 := h.ml
  rw [len_eq, len_eq] at h2
  have : ∃ l, nth m.boxes b = some l := by rw [nth_eq]; exact ⟨_, List.getElem?_eq_getElem (h2 ▸ h1)⟩
  obtain ⟨l, hl⟩ := this
  obtain ⟨C, T, hC, _⟩ := h.box b l p hl e
  exact heap_lt hC
theorem MemOk.S_lt {x : Ctx} {m : Mem} {w : World} (h : MemOk x m w) {i : Nat} {s : SI} {p cap : Nat} (e : nth x.S i = some s) (hb : s.blk = some (p, cap)) : p < w.heap.size := by
  have h1 := nth_lt e
  have h2 := h.sl
  rw [len_eq, len_eq] at h2
  have : ∃ g, nth m.stgs i = some g := by rw [nth_eq]; exact ⟨_, List.getElem?_eq_getElem (h2 ▸ h1)⟩
  obtain ⟨g, hg⟩ := this
  obtain ⟨C, hC, _⟩ := (h.stg i g s hg e).row p cap hb
  exact heap_lt hC

theorem StgOk.world {x : Ctx} {g : Stg} {s : SI} {w w' : World} (h : StgOk x g s w) (hw : ∀ p cap, s.blk = some (p, cap) → w'.heap[p]? = w.heap[p]?) : StgOk x g s w' :=
  ⟨h.e, h.n, h.nil, fun p cap hp => let ⟨C, h1, h2⟩ := h.row p cap hp
  ⟨C, (hw p cap hp).trans h1, h2⟩⟩
/-- More boxes change nothing of what is said of a slice. -/
theorem StgOk.ctx {x x' : Ctx} {g : Stg} {s : SI} {w : World} (h : StgOk x g s w) (hx : x'.bare = x.bare) : StgOk x' g s w := by
  have hf : x'.bare.fz = x.bare.fz := congrArg Ctx.fz hx
  simp only [Ctx.bare] at hf
  exact ⟨h.e, h.n, h.nil, fun p cap hp => by
    obtain ⟨C, h1, h2, h3, h4, h5, h6, h7⟩ := h.row p cap hp
    exact ⟨C, h1, h2, h3, h4, fun i j a hi ha => by rw [hx]; exact h5 i j a hi ha, by rw [hf]; exact h6, by rw [hf]; exact h7⟩⟩

/-- The old blocks are as they were. -/
def OldSame (w w' : World) : Prop := w.heap.size ≤ w'.heap.size ∧ ∀ k, k < w.heap.size → w'.heap[k]? = w.heap[k]?
theorem OldSame.trans {a b c : World} (h : OldSame a b) (k : OldSame b c) : OldSame a c :=
  ⟨Nat.le_trans h.1 k.1, fun i hi => (k.2 i (Nat.lt_of_lt_of_le hi h.1)).trans (h.2 i hi)⟩
theorem OldSame.cell {w w' : World} (h : OldSame w w') {b o : Nat} {v : Value} (e : w.cell? ⟨b, o, none⟩ = some v) : w'.cell? ⟨b, o, none⟩ = some v := by
  have hb : b < w.heap.size := by
    simp only [World.cell?] at e
    split at e
    · rename_i hb; exact heap_lt hb
    · simp at e
  rw [World.cell?_of_block (w := w) (a := ⟨b, o, none⟩) (h.2 b hb)]; exact e

theorem MemOk.old {x : Ctx} {m : Mem} {w w' : World} (h : MemOk x m w) (hw : OldSame w w') : MemOk x m w' where
  fresh := fun k hk => h.fresh k (Nat.le_trans hw.1 hk)
  fz := fun b o v e => by rw [World.cell?_of_block (w := w) (a := ⟨b, o, none⟩) (hw.2 b (h.fz_lt e))]; exact h.fz b o v e
  ml := h.ml
  box := fun b l p hl hp => by
    obtain ⟨C, T, h1, h2⟩ := h.box b l p hl hp
    exact ⟨C, T, (hw.2 p (h.M_lt hp)).trans h1, h2⟩
  mown := h.mown
  inj := h.inj
  sl := h.sl
  stg := fun i g s hg hs => (h.stg i g s hg hs).world fun p cap hp => hw.2 p (h.S_lt hs hp)
  sown := h.sown
  sinj := h.sinj

theorem OldSame.alloc (w : World) (o : Obj) : OldSame w (w.alloc o) := ⟨by simp, fun k hk => RowKit.Below.heap_alloc w o k hk⟩
theorem OldSame.refl (w : World) : OldSame w w := ⟨Nat.le_refl _, fun _ _ => rfl⟩

theorem ext_box (x : Ctx) (p : Nat) : Ext [] x { x with M := x.M ++ [p] } :=
  ⟨rfl, fun _ _ h => nth_append_left h, fun _ _ h _ => h, fun _ _ _ h => h, fun _ _ _ h => .inl h⟩

theorem newBox_ok {x : Ctx} {m : Mem} {w : World} (h : MemOk x m w) {l : List A} {C : List Value} (T : TypeId) (hl : RL x l C) :
    MemOk { x with M := x.M ++ [w.heap.size] } { m with boxes := m.boxes ++ [l] } (w.alloc (.cells C.toArray T)) ∧
      Step x w (w.alloc (.cells C.toArray T)) ∧ RA { x with M := x.M ++ [w.heap.size] } (.loc (len m.boxes) 0) (.pointer (some ⟨w.heap.size, 0, none⟩)) := by
  have hb := h.old (OldSame.alloc w (.cells C.toArray T))
  have hx : Ext [] x { x with M := x.M ++ [w.heap.size] } := ext_box x _
  have hml := h.ml
  rw [len_eq, len_eq] at hml
  have hnew : ∀ b p, nth (x.M ++ [w.heap.size]) b = some p → (nth x.M b = some p ∧ p < w.heap.size) ∨ (b = x.M.length ∧ p = w.heap.size) := fun b p e =>
    (nth_append_cases e).imp (fun e => ⟨e, h.M_lt e⟩) id
  refine ⟨⟨hb.fresh, hb.fz, ?_, ?_, ?_, ?_, hb.sl, ?_, ?_, hb.sinj⟩, ⟨rfl, rfl, rfl, by simp, fun k hk => ?_⟩, ?_⟩
  · simp [len_eq, hml]
  · intro b l' p hl' hp
    rcases nth_append_cases hl' with e | ⟨e1, e2⟩
    · rcases hnew b p hp with ⟨e', _⟩ | ⟨e', _⟩
      · obtain ⟨C', T', h1, h2⟩ := hb.box b l' p e e'
        exact ⟨C', T', h1, h2.mono hx⟩
      · have := nth_lt e; omega
    · rcases hnew b p hp with ⟨e', _⟩ | ⟨_, e'⟩
      · have := nth_lt e'; omega
      · subst e'; subst e2
        exact ⟨C, T, by simp only [World.alloc]; simp, hl.mono hx⟩
  · intro b p hp
    rcases hnew b p hp with ⟨e, _⟩ | ⟨_, e⟩
    · exact h.mown b p e
    · subst e
      refine ⟨h.fresh _ (Nat.le_refl _), fun o => ?_⟩
      cases hf : x.fz w.heap.size o with
      | none => rfl
      | some v => have := h.fz_lt hf; omega
  · intro b b' p hp hp'
    rcases hnew b p hp with ⟨e, e1⟩ | ⟨e, e1⟩ <;> rcases hnew b' p hp' with ⟨e', e1'⟩ | ⟨e', e1'⟩
    · exact h.inj b b' p e e'
    · omega
    · omega
    · omega
  · intro i g s hg hs
    exact (hb.stg i g s hg hs).ctx rfl
  · intro i s p cap hs hbk
    obtain ⟨h1, h2⟩ := h.sown i s p cap hs hbk
    refine ⟨h1, fun b e => ?_⟩
    rcases hnew b p e with ⟨e', _⟩ | ⟨_, e'⟩
    · exact h2 b e'
    · have := h.S_lt hs hbk; omega
  · exact RowKit.Below.heap_alloc w _ k (by
      rcases Nat.lt_or_ge k w.heap.size with h1 | h1
      · exact h1
      · exact absurd (h.fresh k h1) hk)
  · refine .loc _ _ _ _ ?_
    rw [nth_eq, len_eq, ← hml]
    simp

/-- The cells of a box that are written. -/
theorem putN_some : ∀ {vs : List A} {l r : List A} {o : Nat}, putN l o vs = some r → r = l.take o ++ vs ++ l.drop (o + vs.length) ∧ (vs ≠ [] → o + vs.length ≤ l.length)
  | [], l, r, o, h => by simp [putN] at h; simp [h]
  | v :: vs, l, r, o, h => by
    simp only [putN] at h
    split at h
    · rename_i a ha
      have hlt := nth_lt ha
      obtain ⟨h1, h2⟩ := putN_some h
      rw [setN_eq] at h1 h2
      refine ⟨?_, fun _ => ?_⟩
      · subst h1
        have e1 : (l.set o v).take (o + 1) = l.take o ++ [v] := by
          rw [List.take_succ_eq_append_getElem (by simpa using hlt)]
          simp [List.take_set_of_le]
        rw [e1, List.drop_set_of_lt (by omega)]
        simp [Nat.add_assoc, Nat.add_comm 1]
      · cases vs with
        | nil => simp; omega
        | cons _ _ => have := h2 (by simp); simp at this ⊢; omega
    · simp at h
theorem oneCell_of_atomic {v : Value} (h : atomic v) : v.oneCell' = true := by
  cases v <;> first | rfl | exact h.elim

theorem setBox_ok {x : Ctx} {m : Mem} {w : World} (h : MemOk x m w) {b p o : Nat} {c c' l : List A} {vs : List Value} (hc : nth m.boxes b = some c) (hp : nth x.M b = some p) (hput : putN c o l = some c') (hl : RL x l vs) (hne : l ≠ []) :
    ∃ C : List Value, ∃ T, w.heap[p]? = some (.cells C.toArray T (0, 0)) ∧ o + vs.length ≤ C.length ∧
      MemOk x { m with boxes := setN m.boxes b c' } (w.setRow p (C.take o ++ vs ++ C.drop (o + vs.length)).toArray) ∧ Step x w (w.setRow p (C.take o ++ vs ++ C.drop (o + vs.length)).toArray) := by
  obtain ⟨C, T, h1, h2⟩ := h.box b c p hc hp
  obtain ⟨e1, e2⟩ := putN_some hput
  have hlen := hl.length
  have hlen2 := h2.length
  have hown := h.mown b p hp
  refine ⟨C, T, h1, by have := e2 hne; omega, ?_, ?_⟩
  · have hrow := setRow_heap w p C.toArray (C.take o ++ vs ++ C.drop (o + vs.length)).toArray T (0, 0) h1
    generalize hw' : w.setRow p (C.take o ++ vs ++ C.drop (o + vs.length)).toArray = w' at *
    have hoth : ∀ k, k ≠ p → w'.heap[k]? = w.heap[k]? := fun k hk => by rw [← hw']; exact setRow_other w p k _ hk
    have hsz : w'.heap.size = w.heap.size := by rw [← hw']; simp
    refine ⟨fun k hk => h.fresh k (by omega), ?_, ?_, ?_, h.mown, h.inj, h.sl, ?_, h.sown, h.sinj⟩
    · intro b' o' v e
      have hne' : b' ≠ p := by rintro rfl; rw [hown.2 o'] at e; simp at e
      rw [World.cell?_of_block (w := w) (a := ⟨b', o', none⟩) (hoth b' hne')]
      exact h.fz b' o' v e
    · have := h.ml; simp only [len_eq, setN_eq, List.length_set] at *; exact this
    · intro b' l' p' hl' hp'
      by_cases hb : b' = b
      · subst hb
        have : p' = p := by rw [hp] at hp'; simpa using hp'.symm
        subst this
        have hlt := nth_lt hc
        rw [nth_eq, setN_eq, List.getElem?_set_self hlt] at hl'
        simp only [Option.some.injEq] at hl'
        subst hl'
        refine ⟨_, T, hrow, ?_⟩
        rw [e1, hlen]
        exact ((h2.take o).append hl).append (h2.drop _)
      · rw [nth_eq, setN_eq, List.getElem?_set_ne (Ne.symm hb), ← nth_eq] at hl'
        obtain ⟨C', T', h3, h4⟩ := h.box b' l' p' hl' hp'
        refine ⟨C', T', ?_, h4⟩
        rw [hoth p' (fun e => hb (h.inj _ _ _ (e ▸ hp') hp)), h3]
    · intro i g s hg hs
      exact (h.stg i g s hg hs).world fun q cap hq => hoth q (fun e => (h.sown i s q cap hs hq).2 b (e ▸ hp))
  · exact ⟨rfl, rfl, rfl, by simp, fun k hk => setRow_other w p k _ (fun e => hk (e ▸ hown.1))⟩

theorem cell_of_heap {w : World} {p : Nat} {C : List Value} {T : TypeId} {f : Nat × Nat} (h : w.heap[p]? = some (.cells C.toArray T f)) (j : Nat) : w.cell? ⟨p, j, none⟩ = C[j]? := by
  simp [World.cell?, h]
theorem add_none (p o n : Nat) : (⟨p, o, none⟩ : Addr).add n = ⟨p, o + n, none⟩ := by unfold Addr.add; split <;> simp_all

/-- What can be read through a pointer. -/
theorem cellsAt_ok {x : Ctx} {m : Mem} {w : World} (h : MemOk x m w) {p : A} {v : Value} (hp : RA x p v) {l : List A} (hl : cellsAt m p = some l) :
    ∃ q o, v = .pointer (some ⟨q, o, none⟩) ∧ ∀ j a, nth l j = some a → ∃ u, w.cell? ⟨q, o + j, none⟩ = some u ∧ RA x a u := by
  unfold cellsAt at hl
  split at hl
  · rename_i b o
    cases hp with
    | loc _ _ _ q hq =>
      rw [Option.map_eq_some_iff] at hl
      obtain ⟨c, h1, h2⟩ := hl
      subst h2
      obtain ⟨C, T, h3, h4⟩ := h.box b c q h1 hq
      refine ⟨q, o, rfl, fun j a ha => ?_⟩
      rw [dropN_eq, nth_eq, List.getElem?_drop, ← nth_eq] at ha
      obtain ⟨u, h5, h6⟩ := h4.nth _ _ ha
      exact ⟨u, by rw [cell_of_heap h3]; exact h5, h6⟩
  · simp only [Option.some.injEq] at hl
    subst hl
    cases hp with
    | fp _ _ q o c hf hr =>
      refine ⟨q, o, rfl, fun j a ha => ⟨c j, h.fz _ _ _ (hf j a ha), (hr j a ha).mono ⟨rfl, ?_, ?_, fun _ _ _ e => e, fun _ _ _ e => .inl e⟩⟩⟩
      · intro b p e; cases b <;> simp [Ctx.bare, nth] at e
      · intro b p e; cases b <;> simp [Ctx.bare, nth] at e
  · simp at hl
end Go.Sx
