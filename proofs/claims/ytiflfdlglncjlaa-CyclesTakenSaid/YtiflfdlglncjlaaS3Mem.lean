/-
  Soundness of the symbolic executor, part 3: boxes and slices in memory. Conditions: none (lemmas).
-/
import Derived.Test.YtiflfdlglncjlaaS3Ops2
import Derived.Laws.CopyRow
import Derived.Laws.Rows
import Derived.Laws.AppendOwn
import Derived.Laws.MakeOwn
import Derived.Laws.BytesString
set_option linter.unusedSimpArgs false
set_option linter.unusedVariables false
namespace Go.S3

theorem nth_append_left {α : Type} {l : List α} {n : Nat} {a b : α} (h : nth l n = some a) : nth (l ++ [b]) n = some a := by
  rw [nth_eq] at *
  have := (List.getElem?_eq_some_iff.1 h).1
  rw [List.getElem?_append_left this]; exact h
theorem nth_append_cases {α : Type} {l : List α} {n : Nat} {a b : α} (h : nth (l ++ [b]) n = some a) : nth l n = some a ∨ (n = l.length ∧ a = b) := by
  rw [nth_eq] at *
  rcases Nat.lt_trichotomy n l.length with h1 | h1 | h1
  · rw [List.getElem?_append_left h1] at h; exact .inl h
  · subst h1; simp at h; exact .inr ⟨rfl, h.symm⟩
  · rw [List.getElem?_eq_none (by simp; omega)] at h; simp at h
theorem nth_lt {α : Type} {l : List α} {n : Nat} {a : α} (h : nth l n = some a) : n < l.length := by
  rw [nth_eq] at h; exact (List.getElem?_eq_some_iff.1 h).1
theorem nth_ex {α : Type} {l : List α} {n : Nat} (h : n < l.length) : ∃ a, nth l n = some a := ⟨_, by rw [nth_eq]; exact List.getElem?_eq_getElem h⟩
theorem nth_set {α : Type} {l : List α} {n m : Nat} {a x : α} (h : nth (setN l n x) m = some a) : (n = m ∧ a = x ∧ n < l.length) ∨ (n ≠ m ∧ nth l m = some a) := by
  rw [nth_eq, setN_eq] at h
  by_cases e : n = m
  · subst e
    have hlt : n < l.length := by
      have := (List.getElem?_eq_some_iff.1 h).1
      simpa using this
    rw [List.getElem?_set_self hlt] at h
    simp only [Option.some.injEq] at h
    exact .inl ⟨rfl, h.symm, hlt⟩
  · rw [List.getElem?_set_ne e] at h
    exact .inr ⟨e, by rw [nth_eq]; exact h⟩
theorem nth_set_self {α : Type} {l : List α} {n : Nat} {a x : α} (h : nth l n = some a) : nth (setN l n x) n = some x := by
  rw [nth_eq, setN_eq, List.getElem?_set_self (nth_lt h)]
theorem nth_set_ne {α : Type} {l : List α} {n m : Nat} {x : α} (h : n ≠ m) : nth (setN l n x) m = nth l m := by
  rw [nth_eq, setN_eq, List.getElem?_set_ne h, nth_eq]
theorem heap_lt {w : World} {k : Nat} {o : Obj} (h : w.heap[k]? = some o) : k < w.heap.size := (Array.getElem?_eq_some_iff.1 h).1
theorem cell_of_heap {w : World} {p : Nat} {C : List Value} {T : TypeId} {f : Nat × Nat} (h : w.heap[p]? = some (.cells C.toArray T f)) (j : Nat) : w.cell? ⟨p, j, none⟩ = C[j]? := by
  simp [World.cell?, h]
theorem add_none (p o n : Nat) : (⟨p, o, none⟩ : Addr).add n = ⟨p, o + n, none⟩ := by unfold Addr.add; split <;> simp_all

theorem MemOk.fz_lt {x : Ctx} {m : Mem} {w : World} (h : MemOk x m w) {b o : Nat} {v : Value} (e : x.fz b o = some v) : b < w.heap.size := by
  have := h.fz b o v e
  simp only [World.cell?] at this
  split at this
  · rename_i hb; exact heap_lt hb
  · simp at this
theorem MemOk.fz_new {x : Ctx} {m : Mem} {w : World} (h : MemOk x m w) {b : Nat} (e : w.heap.size ≤ b) (o : Nat) : x.fz b o = none := by
  cases hf : x.fz b o with
  | none => rfl
  | some v => have := h.fz_lt hf; omega
theorem MemOk.box_of {x : Ctx} {m : Mem} {w : World} (h : MemOk x m w) {b p : Nat} (e : nth x.M b = some p) : ∃ l, nth m.boxes b = some l := nth_ex (h.ml ▸ nth_lt e)
theorem MemOk.M_of {x : Ctx} {m : Mem} {w : World} (h : MemOk x m w) {b : Nat} {l : List A} (e : nth m.boxes b = some l) : ∃ p, nth x.M b = some p := nth_ex (h.ml ▸ nth_lt e)
theorem MemOk.stg_of {x : Ctx} {m : Mem} {w : World} (h : MemOk x m w) {b : Nat} {p : SI} (e : nth x.S b = some p) : ∃ l, nth m.stgs b = some l := nth_ex (h.sl ▸ nth_lt e)
theorem MemOk.S_of {x : Ctx} {m : Mem} {w : World} (h : MemOk x m w) {b : Nat} {l : Stg} (e : nth m.stgs b = some l) : ∃ p, nth x.S b = some p := nth_ex (h.sl ▸ nth_lt e)
theorem MemOk.M_lt {x : Ctx} {m : Mem} {w : World} (h : MemOk x m w) {b p : Nat} (e : nth x.M b = some p) : p < w.heap.size := by
  obtain ⟨l, hl⟩ := h.box_of e
  obtain ⟨C, T, hC, _⟩ := h.box b l p hl e
  exact heap_lt hC
theorem MemOk.S_lt {x : Ctx} {m : Mem} {w : World} (h : MemOk x m w) {i : Nat} {s : SI} {p cap : Nat} (e : nth x.S i = some s) (hb : s.blk = some (p, cap)) : p < w.heap.size := by
  obtain ⟨g, hg⟩ := h.stg_of e
  obtain ⟨C, hC, _⟩ := (h.stg i g s hg e).row p cap hb
  exact heap_lt hC
theorem MemOk.toR {x : Ctx} {m : Mem} {w : World} (h : MemOk x m w) : MemR x m w where
  fz := h.fz
  box := fun b l hl => by
    obtain ⟨p, hp⟩ := h.M_of hl
    obtain ⟨C, T, h1, h2⟩ := h.box b l p hl hp
    exact ⟨p, C, T, hp, h1, h2⟩
  stg := fun i g hg => by
    obtain ⟨s, hs⟩ := h.S_of hg
    exact ⟨s, hs, h.stg i g s hg hs⟩
theorem MemR.bare {x : Ctx} {m : Mem} {w : World} (h : MemR x m w) : MemR x emptyM w where
  fz := h.fz
  box := fun b l hl => by simp [emptyM, nth_nil] at hl
  stg := fun i g hg => by simp [emptyM, nth_nil] at hg

theorem StgOk.world {x : Ctx} {g : Stg} {s : SI} {w w' : World} (h : StgOk x g s w) (hw : ∀ p cap, s.blk = some (p, cap) → w'.heap[p]? = w.heap[p]?) : StgOk x g s w' :=
  ⟨h.ver, h.n, h.wd, h.nil, fun p cap hp => let ⟨C, h1, h2⟩ := h.row p cap hp
  ⟨C, (hw p cap hp).trans h1, h2⟩, h.fzn, h.ffz, h.ub⟩
/-- More boxes, more frozen cells elsewhere change nothing of what is said of a slice. -/
theorem StgOk.ctx {x x' : Ctx} {g : Stg} {s : SI} {w : World} (h : StgOk x g s w) (hx : FzLe x x') (hf : ∀ p cap, s.blk = some (p, cap) → ∀ o, x'.fz p o = x.fz p o) : StgOk x' g s w :=
  ⟨h.ver, h.n, h.wd, h.nil, fun p cap hp => by
    obtain ⟨C, h1, h2, h3, h4, h5, h6, h7, h8⟩ := h.row p cap hp
    exact ⟨C, h1, h2, h3, h4, fun i j a hi ha => by
      obtain ⟨v, e1, e2⟩ := h5 i j a hi ha
      exact ⟨v, e1, e2.plain (x' := x'.bare) hx (R.enc_plain _ _ _ (nth_mem ha))⟩, h6, fun o ho => by rw [hf p cap hp]; exact h7 o ho, fun o ho => by rw [hf p cap hp]; exact h8 o ho⟩, h.fzn, h.ffz, h.ub⟩

/-- The old blocks are as they were. -/
def OldSame (w w' : World) : Prop := w.heap.size ≤ w'.heap.size ∧ ∀ k, k < w.heap.size → w'.heap[k]? = w.heap[k]?
theorem OldSame.trans {a b c : World} (h : OldSame a b) (k : OldSame b c) : OldSame a c :=
  ⟨Nat.le_trans h.1 k.1, fun i hi => (k.2 i (Nat.lt_of_lt_of_le hi h.1)).trans (h.2 i hi)⟩
theorem OldSame.cell {w w' : World} (h : OldSame w w') {b o : Nat} {v : Value} (e : w.cell? ⟨b, o, none⟩ = some v) : w'.cell? ⟨b, o, none⟩ = some v := by
  have hb : b < w.heap.size := by
    simp only [World.cell?] at e
    split at e
    · rename_i hb; exact heap_lt hb
    · simp at e
  rw [World.cell?_of_block (w := w) (a := ⟨b, o, none⟩) (h.2 b hb)]; exact e

theorem MemOk.old {x : Ctx} {m : Mem} {w w' : World} (h : MemOk x m w) (hw : OldSame w w') : MemOk x m w' where
  fresh := fun k hk => h.fresh k (Nat.le_trans hw.1 hk)
  fz := fun b o v e => by rw [World.cell?_of_block (w := w) (a := ⟨b, o, none⟩) (hw.2 b (h.fz_lt e))]; exact h.fz b o v e
  ml := h.ml
  box := fun b l p hl hp => by
    obtain ⟨C, T, h1, h2⟩ := h.box b l p hl hp
    exact ⟨C, T, (hw.2 p (h.M_lt hp)).trans h1, h2⟩
  mown := h.mown
  inj := h.inj
  sl := h.sl
  stg := fun i g s hg hs => (h.stg i g s hg hs).world fun p cap hp => hw.2 p (h.S_lt hs hp)
  sown := h.sown
  sinj := h.sinj
theorem OldSame.step {x : Ctx} {m : Mem} {w w' : World} (h : OldSame w w') (hm : MemOk x m w) (h1 : w'.os = w.os) (h2 : w'.tape = w.tape) (h3 : w'.output = w.output) : Step x w w' :=
  ⟨h1, h2, h3, h.1, fun k hk => h.2 k (by
    rcases Nat.lt_or_ge k w.heap.size with h1 | h1
    · exact h1
    · exact absurd (hm.fresh k h1) hk)⟩

theorem OldSame.alloc (w : World) (o : Obj) : OldSame w (w.alloc o) := ⟨by simp, fun k hk => RowKit.Below.heap_alloc w o k hk⟩
theorem OldSame.refl (w : World) : OldSame w w := ⟨Nat.le_refl _, fun _ _ => rfl⟩

theorem ext_box (x : Ctx) (p : Nat) : Ext x { x with M := x.M ++ [p] } :=
  ⟨rfl, fun _ _ h => nth_append_left h, fun _ s h => ⟨s, h, .refl s⟩, fun _ _ _ h => h, fun _ _ _ h => .inl h⟩

theorem newBox_ok {x : Ctx} {m : Mem} {w : World} (h : MemOk x m w) {l : List A} {C : List Value} (T : TypeId) (hl : RL x l C) :
    MemOk { x with M := x.M ++ [w.heap.size] } { m with boxes := m.boxes ++ [l] } (w.alloc (.cells C.toArray T)) ∧
      Step x w (w.alloc (.cells C.toArray T)) ∧ RA { x with M := x.M ++ [w.heap.size] } (.loc (len m.boxes) 0) (.pointer (some ⟨w.heap.size, 0, none⟩)) := by
  have hb := h.old (OldSame.alloc w (.cells C.toArray T))
  have hx : Ext x { x with M := x.M ++ [w.heap.size] } := ext_box x _
  have hml := h.ml
  have hnew : ∀ b p, nth (x.M ++ [w.heap.size]) b = some p → (nth x.M b = some p ∧ p < w.heap.size) ∨ (b = x.M.length ∧ p = w.heap.size) := fun b p e =>
    (nth_append_cases e).imp (fun e => ⟨e, h.M_lt e⟩) id
  refine ⟨⟨hb.fresh, hb.fz, ?_, ?_, ?_, ?_, hb.sl, ?_, ?_, hb.sinj⟩, (OldSame.alloc w _).step h rfl rfl rfl, ?_⟩
  · simp [hml]
  · intro b l' p hl' hp
    rcases nth_append_cases hl' with e | ⟨e1, e2⟩
    · rcases hnew b p hp with ⟨e', _⟩ | ⟨e', _⟩
      · obtain ⟨C', T', h1, h2⟩ := hb.box b l' p e e'
        exact ⟨C', T', h1, h2.mono hx⟩
      · have := nth_lt e; omega
    · rcases hnew b p hp with ⟨e', _⟩ | ⟨_, e'⟩
      · have := nth_lt e'; omega
      · subst e'; subst e2
        exact ⟨C, T, by simp only [World.alloc]; simp, hl.mono hx⟩
  · intro b p hp
    rcases hnew b p hp with ⟨e, _⟩ | ⟨_, e⟩
    · exact h.mown b p e
    · subst e
      exact ⟨h.fresh _ (Nat.le_refl _), h.fz_new (Nat.le_refl _)⟩
  · intro b b' p hp hp'
    rcases hnew b p hp with ⟨e, e1⟩ | ⟨e, e1⟩ <;> rcases hnew b' p hp' with ⟨e', e1'⟩ | ⟨e', e1'⟩
    · exact h.inj b b' p e e'
    · omega
    · omega
    · omega
  · intro i g s hg hs
    exact (hb.stg i g s hg hs).ctx (fun _ _ _ h => h) (fun _ _ _ _ => rfl)
  · intro i s p cap hs hbk
    obtain ⟨h1, h2⟩ := h.sown i s p cap hs hbk
    refine ⟨h1, fun b e => ?_⟩
    rcases hnew b p e with ⟨e', _⟩ | ⟨_, e'⟩
    · exact h2 b e'
    · have := h.S_lt hs hbk; omega
  · refine .loc _ _ _ _ ?_
    rw [nth_eq, len_eq, ← hml]
    simp

/-- The cells of a box that are written. -/
theorem putN_some : ∀ {vs : List A} {l r : List A} {o : Nat}, putN l o vs = some r → r = l.take o ++ vs ++ l.drop (o + vs.length) ∧ (vs ≠ [] → o + vs.length ≤ l.length)
  | [], l, r, o, h => by simp [putN] at h; simp [h]
  | v :: vs, l, r, o, h => by
    simp only [putN] at h
    split at h
    · rename_i a ha
      have hlt := nth_lt ha
      obtain ⟨h1, h2⟩ := putN_some h
      rw [setN_eq] at h1 h2
      refine ⟨?_, fun _ => ?_⟩
      · subst h1
        have e1 : (l.set o v).take (o + 1) = l.take o ++ [v] := by
          rw [List.take_succ_eq_append_getElem (by simpa using hlt)]
          simp [List.take_set_of_le]
        rw [e1, List.drop_set_of_lt (by omega)]
        simp [Nat.add_assoc, Nat.add_comm 1]
      · cases vs with
        | nil => simp; omega
        | cons _ _ => have := h2 (by simp); simp at this ⊢; omega
    · simp at h
theorem oneCell_of_atomic {v : Value} (h : atomic v) : v.oneCell' = true := by
  cases v <;> first | rfl | exact h.elim


theorem setBox_ok {x : Ctx} {m : Mem} {w : World} (h : MemOk x m w) {b p o : Nat} {c c' l : List A} {vs : List Value} (hc : nth m.boxes b = some c) (hp : nth x.M b = some p) (hput : putN c o l = some c') (hl : RL x l vs) (hne : l ≠ []) :
    ∃ C : List Value, ∃ T, w.heap[p]? = some (.cells C.toArray T (0, 0)) ∧ o + vs.length ≤ C.length ∧
      MemOk x { m with boxes := setN m.boxes b c' } (w.setRow p (C.take o ++ vs ++ C.drop (o + vs.length)).toArray) ∧ Step x w (w.setRow p (C.take o ++ vs ++ C.drop (o + vs.length)).toArray) := by
  obtain ⟨C, T, h1, h2⟩ := h.box b c p hc hp
  obtain ⟨e1, e2⟩ := putN_some hput
  have hlen := hl.length
  have hlen2 := h2.length
  have hown := h.mown b p hp
  refine ⟨C, T, h1, by have := e2 hne; omega, ?_, ?_⟩
  · have hrow := setRow_heap w p C.toArray (C.take o ++ vs ++ C.drop (o + vs.length)).toArray T (0, 0) h1
    generalize hw' : w.setRow p (C.take o ++ vs ++ C.drop (o + vs.length)).toArray = w' at *
    have hoth : ∀ k, k ≠ p → w'.heap[k]? = w.heap[k]? := fun k hk => by rw [← hw']; exact setRow_other w p k _ hk
    have hsz : w'.heap.size = w.heap.size := by rw [← hw']; simp
    refine ⟨fun k hk => h.fresh k (by omega), ?_, ?_, ?_, h.mown, h.inj, h.sl, ?_, h.sown, h.sinj⟩
    · intro b' o' v e
      have hne' : b' ≠ p := by rintro rfl; rw [hown.2 o'] at e; simp at e
      rw [World.cell?_of_block (w := w) (a := ⟨b', o', none⟩) (hoth b' hne')]
      exact h.fz b' o' v e
    · simp only [setN_eq, List.length_set]; exact h.ml
    · intro b' l' p' hl' hp'
      rcases nth_set hl' with ⟨rfl, rfl, _⟩ | ⟨hb, hl'⟩
      · have : p' = p := by rw [hp] at hp'; simpa using hp'.symm
        subst this
        refine ⟨_, T, hrow, ?_⟩
        rw [e1, hlen]
        exact ((h2.take o).append hl).append (h2.drop _)
      · obtain ⟨C', T', h3, h4⟩ := h.box b' l' p' hl' hp'
        refine ⟨C', T', ?_, h4⟩
        rw [hoth p' (fun e => hb (h.inj _ _ _ (e ▸ hp') hp).symm), h3]
    · intro i g s hg hs
      exact (h.stg i g s hg hs).world fun q cap hq => hoth q (fun e => (h.sown i s q cap hs hq).2 b (e ▸ hp))
  · exact ⟨rfl, rfl, rfl, by simp, fun k hk => setRow_other w p k _ (fun e => hk (e ▸ hown.1))⟩

/-! ### slices -/
theorem stgOf_some {m : Mem} {h v : Nat} {g : Stg} (e : stgOf m h v = some g) : nth m.stgs h = some g ∧ g.ver = v := by
  unfold stgOf at e
  split at e
  · rename_i g' hg
    split at e
    · rename_i hb
      simp only [Nat.beq_eq] at hb
      simp only [Option.some.injEq] at e; subst e
      exact ⟨hg, hb⟩
    · simp at e
  · simp at e
theorem tip_of {x : Ctx} {m : Mem} {w : World} (hm : MemR x m w) {h v : Nat} {val : Value} (hv : RA x (.tip h v) val) {g : Stg} (e : stgOf m h v = some g) :
    ∃ s, nth x.S h = some s ∧ StgOk x g s w ∧ val = tipVal s := by
  obtain ⟨e1, e2⟩ := stgOf_some e
  obtain ⟨s, hs, hok⟩ := hm.stg h g e1
  cases hv with
  | tip _ _ _ s' _ hs' _ hval _ =>
    have : s' = s := by rw [hs] at hs'; simpa using hs'.symm
    subst this
    exact ⟨s', hs, hok, hval (by rw [hok.ver, e2])⟩
theorem sp_of {x : Ctx} {m : Mem} {w : World} (hm : MemR x m w) {h v : Nat} {i : Int} {o : Nat} {val : Value} (hv : RA x (.sp h v i o) val) {g : Stg} (e : stgOf m h v = some g) :
    ∃ s p cap, nth x.S h = some s ∧ StgOk x g s w ∧ s.blk = some (p, cap) ∧ 0 ≤ i ∧ i.toNat < g.l.length ∧ val = .pointer (some ⟨p, i.toNat * g.r.wid + o, none⟩) := by
  obtain ⟨e1, e2⟩ := stgOf_some e
  obtain ⟨s, hs, hok⟩ := hm.stg h g e1
  cases hv with
  | sp _ _ _ _ _ s' _ hs' _ hval _ =>
    have : s' = s := by rw [hs] at hs'; simpa using hs'.symm
    subst this
    obtain ⟨p, cap, h1, h2, h3, h4⟩ := hval (by rw [hok.ver, e2])
    exact ⟨s', p, cap, hs, hok, h1, h2, by rw [← hok.n]; exact h3, by rw [h4, hok.wd]⟩
theorem tipVal_blk {s : SI} {p cap : Nat} (h : s.blk = some (p, cap)) : tipVal s = .slice (some ⟨p, 0, none⟩) s.n cap := by simp only [tipVal, h]
theorem tipVal_none {s : SI} (h : s.blk = none) : tipVal s = .slice s.na 0 0 := by simp only [tipVal, h]
theorem elN_lt {r : R} {l : List r.den} {i j : Nat} {a : A} (h : nth (elN r l i) j = some a) : j < r.wid := by
  have := nth_lt h
  rw [elN, R.enc_len] at this; exact this
theorem elN_cell {r : R} {l : List r.den} {i j n : Nat} {a : A} (hi : i < n) (h : nth (elN r l i) j = some a) : i * r.wid + j < n * r.wid := by
  have h1 := elN_lt h
  have h2 : (i + 1) * r.wid ≤ n * r.wid := Nat.mul_le_mul_right _ hi
  rw [Nat.add_mul] at h2; omega

/-- The slice number h, and what is frozen of it, changes; the world as well, in its block or a new one. -/
theorem MemOk.setS {x : Ctx} {m : Mem} {w w' : World} (hm : MemOk x m w) {h : Nat} {g g' : Stg} {s s' : SI} {fz' : Nat → Nat → Option Value} (_hg : nth m.stgs h = some g) (hs : nth x.S h = some s)
    (hle : SLe s s') (hsz : w.heap.size ≤ w'.heap.size)
    (hoth : ∀ k, k < w.heap.size → (∀ cap, s.blk ≠ some (k, cap)) → w'.heap[k]? = w.heap[k]?)
    (hfz : ∀ b o v, x.fz b o = some v → fz' b o = some v) (hfzo : ∀ b o, (∀ cap, s.blk ≠ some (b, cap)) → b < w.heap.size → fz' b o = x.fz b o)
    (hcell : ∀ b o v, fz' b o = some v → w'.cell? ⟨b, o, none⟩ = some v)
    (hblk : ∀ p cap, s'.blk = some (p, cap) → (∃ c, s.blk = some (p, c)) ∨ w.heap.size ≤ p)
    (hok : StgOk { x with S := setN x.S h s', fz := fz' } g' s' w') :
    MemOk { x with S := setN x.S h s', fz := fz' } { m with stgs := setN m.stgs h g' } w' ∧ Ext x { x with S := setN x.S h s', fz := fz' } := by
  have hx : Ext x { x with S := setN x.S h s', fz := fz' } := by
    refine ⟨rfl, fun _ _ e => e, fun i s1 e => ?_, hfz, fun b o v e => ?_⟩
    · by_cases hi : h = i
      · subst hi
        have : s1 = s := by rw [hs] at e; simpa using e.symm
        subst this
        exact ⟨s', nth_set_self hs, hle⟩
      · exact ⟨s1, by show nth (setN x.S h s') i = _; rw [nth_set_ne hi]; exact e, .refl s1⟩
    · by_cases hb : ∃ cap, s.blk = some (b, cap)
      · obtain ⟨cap, hb⟩ := hb
        exact .inr (hm.sown h s b cap hs hb).1
      · by_cases hlt : b < w.heap.size
        · exact .inl (by rw [← hfzo b o (fun cap e => hb ⟨cap, e⟩) hlt]; exact e)
        · exact .inr (hm.fresh b (by omega))
  refine ⟨⟨fun k hk => hm.fresh k (by omega), hcell, hm.ml, ?_, ?_, hm.inj, by simp [setN_eq, hm.sl], ?_, ?_, ?_⟩, hx⟩
  · intro b l p hl hp
    obtain ⟨C, T, h1, h2⟩ := hm.box b l p hl hp
    exact ⟨C, T, (hoth p (hm.M_lt hp) (fun cap e => (hm.sown h s p cap hs e).2 b hp)).trans h1, h2.mono hx⟩
  · intro b p hp
    obtain ⟨h1, h2⟩ := hm.mown b p hp
    exact ⟨h1, fun o => by show fz' p o = none; rw [hfzo p o (fun cap e => (hm.sown h s p cap hs e).2 b hp) (hm.M_lt hp)]; exact h2 o⟩
  · intro i g1 s1 hg1 hs1
    rcases nth_set hg1 with ⟨rfl, rfl, _⟩ | ⟨hi, hg1⟩
    · have : s1 = s' := by
        have hs1 : nth (setN x.S h s') h = some s1 := hs1
        rw [nth_set_self hs] at hs1; simpa using hs1.symm
      subst this
      exact hok
    · have hs1 : nth (setN x.S h s') i = some s1 := hs1
      rw [nth_set_ne hi] at hs1
      have hne : ∀ p cap, s1.blk = some (p, cap) → ∀ c, s.blk ≠ some (p, c) := fun p cap e c e' => hi (hm.sinj h i s s1 p c cap hs hs1 e' e)
      exact ((hm.stg i g1 s1 hg1 hs1).world (w' := w') fun p cap e => hoth p (hm.S_lt hs1 e) (hne p cap e)).ctx hfz (fun p cap e o => hfzo p o (hne p cap e) (hm.S_lt hs1 e))
  · intro i s1 p cap hs1 hb
    have hs1 : nth (setN x.S h s') i = some s1 := hs1
    rcases nth_set hs1 with ⟨rfl, rfl, _⟩ | ⟨hi, hs1⟩
    · rcases hblk p cap hb with ⟨c, e⟩ | e
      · exact hm.sown h s p c hs e
      · exact ⟨hm.fresh p e, fun b e' => by have := hm.M_lt e'; omega⟩
    · exact hm.sown i s1 p cap hs1 hb
  · intro i i' s1 s2 p c1 c2 h1 h2 e1 e2
    rcases nth_set h1 with ⟨hi, a1, _⟩ | ⟨hi, q1⟩ <;> rcases nth_set h2 with ⟨hi', a2, _⟩ | ⟨hi', q2⟩
    · omega
    · rw [a1] at e1
      rcases hblk p c1 e1 with ⟨c, e⟩ | e
      · exact absurd (hm.sinj h i' s s2 p c c2 hs q2 e e2) hi'
      · have := hm.S_lt q2 e2; omega
    · rw [a2] at e2
      rcases hblk p c2 e2 with ⟨c, e⟩ | e
      · exact absurd (hm.sinj h i s s1 p c c1 hs q1 e e1) hi
      · have := hm.S_lt q1 e1; omega
    · exact hm.sinj i i' s1 s2 p c1 c2 q1 q2 e1 e2

/-- One more slice, in a new block or none. -/
theorem MemOk.addS {x : Ctx} {m : Mem} {w w' : World} (hm : MemOk x m w) {g : Stg} {s : SI} (hw : OldSame w w') (hblk : ∀ p cap, s.blk = some (p, cap) → w.heap.size ≤ p) (hok : StgOk { x with S := x.S ++ [s] } g s w') :
    MemOk { x with S := x.S ++ [s] } { m with stgs := m.stgs ++ [g] } w' ∧ Ext x { x with S := x.S ++ [s] } := by
  have hx : Ext x { x with S := x.S ++ [s] } := ⟨rfl, fun _ _ e => e, fun i s1 e => ⟨s1, nth_append_left e, .refl s1⟩, fun _ _ _ e => e, fun _ _ _ e => .inl e⟩
  have hb := hm.old hw
  refine ⟨⟨hb.fresh, hb.fz, hb.ml, ?_, hb.mown, hb.inj, by simp [hm.sl], ?_, ?_, ?_⟩, hx⟩
  · intro b l p hl hp
    obtain ⟨C, T, h1, h2⟩ := hb.box b l p hl hp
    exact ⟨C, T, h1, h2.mono hx⟩
  · intro i g1 s1 hg1 hs1
    have hs1 : nth (x.S ++ [s]) i = some s1 := hs1
    have hsl := hm.sl
    rcases nth_append_cases hg1 with e | ⟨e1, e2⟩ <;> rcases nth_append_cases hs1 with f | ⟨f1, f2⟩
    · exact (hb.stg i g1 s1 e f).ctx (fun _ _ _ h => h) (fun _ _ _ _ => rfl)
    · have := nth_lt e; omega
    · have := nth_lt f; omega
    · subst e2; subst f2; exact hok
  · intro i s1 p cap hs1 he
    have hs1 : nth (x.S ++ [s]) i = some s1 := hs1
    rcases nth_append_cases hs1 with f | ⟨f1, f2⟩
    · exact hm.sown i s1 p cap f he
    · subst f2
      have := hblk p cap he
      exact ⟨hm.fresh p this, fun b e => by have := hm.M_lt e; omega⟩
  · intro i i' s1 s2 p c1 c2 h1 h2 e1 e2
    have h1 : nth (x.S ++ [s]) i = some s1 := h1
    have h2 : nth (x.S ++ [s]) i' = some s2 := h2
    rcases nth_append_cases h1 with f | ⟨f1, f2⟩ <;> rcases nth_append_cases h2 with k | ⟨k1, k2⟩
    · exact hm.sinj i i' s1 s2 p c1 c2 f k e1 e2
    · subst k2
      have := hblk p c2 e2; have := hm.S_lt f e1; omega
    · subst f2
      have := hblk p c1 e1; have := hm.S_lt k e2; omega
    · omega

/-- More cells are frozen, of a block that has just been made. -/
theorem MemOk.frzNew {x : Ctx} {m : Mem} {w : World} (hm : MemOk x m w) (C : List Value) (T : TypeId) :
    MemOk { x with fz := fun b o => if b = w.heap.size then C[o]? else x.fz b o } m (w.alloc (.cells C.toArray T)) ∧ Ext x { x with fz := fun b o => if b = w.heap.size then C[o]? else x.fz b o } := by
  have hle : FzLe x { x with fz := fun b o => if b = w.heap.size then C[o]? else x.fz b o } := by
    intro b o v e
    have := hm.fz_lt e
    show (if b = w.heap.size then _ else _) = _
    rw [if_neg (by omega)]; exact e
  have hx : Ext x { x with fz := fun b o => if b = w.heap.size then C[o]? else x.fz b o } := by
    refine ⟨rfl, fun _ _ e => e, fun i s e => ⟨s, e, .refl s⟩, hle, fun b o v e => ?_⟩
    have e : (if b = w.heap.size then C[o]? else x.fz b o) = some v := e
    split at e
    · rename_i hb; exact .inr (hm.fresh b (by omega))
    · exact .inl e
  have hb := hm.old (OldSame.alloc w (.cells C.toArray T))
  refine ⟨⟨hb.fresh, ?_, hb.ml, ?_, ?_, hb.inj, hb.sl, ?_, hb.sown, hb.sinj⟩, hx⟩
  · intro b o v e'
    have e : (if b = w.heap.size then C[o]? else x.fz b o) = some v := e'
    clear e'
    split at e
    · rename_i hbe
      rw [hbe, cell_of_heap (heap_alloc_new w _)]; exact e
    · exact hb.fz b o v e
  · intro b l p hl hp
    obtain ⟨C', T', h1, h2⟩ := hb.box b l p hl hp
    exact ⟨C', T', h1, h2.mono hx⟩
  · intro b p hp
    obtain ⟨h1, h2⟩ := hm.mown b p hp
    refine ⟨h1, fun o => ?_⟩
    show (if p = w.heap.size then _ else _) = _
    rw [if_neg (by have := hm.M_lt hp; omega)]; exact h2 o
  · intro i g s hg hs
    refine (hb.stg i g s hg hs).ctx hle fun p cap e o => ?_
    show (if p = w.heap.size then _ else _) = _
    rw [if_neg (by have := hm.S_lt hs e; omega)]

/-- A slice is frozen. -/
theorem setN_same {α : Type} {l : List α} {n : Nat} {a : α} (h : nth l n = some a) : setN l n a = l := by
  rw [setN_eq]; rw [nth_eq] at h
  obtain ⟨h1, h2⟩ := List.getElem?_eq_some_iff.1 h
  rw [← h2]; exact List.set_getElem_self h1
theorem MemOk.freeze {x : Ctx} {m : Mem} {w : World} (hm : MemOk x m w) {h : Nat} {g : Stg} {s : SI} (hg : nth m.stgs h = some g) (hs : nth x.S h = some s) :
    ∃ x', MemOk x' { m with stgs := setN m.stgs h { g with fzn := true, ffz := true } } w ∧ Ext x x' ∧ ∀ lit, RA x' (.lst g.r lit false false g.l) (tipVal s) := by
  have hok := hm.stg h g s hg hs
  cases hblk : s.blk with
  | none =>
    obtain ⟨h1, h2⟩ := hok.nil hblk
    have hl : g.l = [] := List.eq_nil_of_length_eq_zero (by rw [← hok.n]; exact h1)
    obtain ⟨p1, p2⟩ := hm.setS (w' := w) (g' := { g with fzn := true, ffz := true }) (s' := s) (fz' := x.fz) hg hs (.refl s) (Nat.le_refl _) (fun _ _ _ => rfl) (fun _ _ _ e => e) (fun _ _ _ _ => rfl) hm.fz (fun p cap e => .inl ⟨cap, e⟩)
      ⟨hok.ver, hok.n, hok.wd, hok.nil, fun p cap e => by rw [hblk] at e; simp at e, fun e => by simp at e, fun _ => by rw [h2, h1]; simp, hok.ub⟩
    refine ⟨_, p1, p2, fun lit => ?_⟩
    rw [tipVal_none hblk]
    exact .lst0 _ _ _ _ _ _ _ _ hl (fun e => by simp at e) (fun e => by simp at e)
  | some pc =>
    obtain ⟨p, cap⟩ := pc
    obtain ⟨C, c1, c2, c3, c4, c5, c6, c7, c8⟩ := hok.row p cap hblk
    have hz : ∀ b o v, x.fz b o = some v → (if b = p ∧ o < s.n * g.r.wid then C[o]? else x.fz b o) = some v := by
      intro b o v q
      split
      · rename_i hc
        obtain ⟨rfl, hc⟩ := hc
        by_cases ho : o < s.fc
        · rw [← c7 o ho]; exact q
        · rw [c8 o (by omega)] at q; simp at q
      · exact q
    obtain ⟨p1, p2⟩ := hm.setS (w' := w) (g' := { g with fzn := true, ffz := true }) (s' := { s with fc := s.n * g.r.wid }) (fz' := fun b o => if b = p ∧ o < s.n * g.r.wid then C[o]? else x.fz b o) hg hs ⟨Nat.le_refl _, fun _ => ⟨rfl, rfl, rfl, rfl⟩⟩ (Nat.le_refl _) (fun _ _ _ => rfl)
      hz
      (fun b o hb _ => if_neg (fun q : b = p ∧ o < s.n * g.r.wid => hb cap (q.1 ▸ hblk)))
      (fun b o v q => by
        by_cases hc : b = p ∧ o < s.n * g.r.wid
        · rw [if_pos hc] at q
          obtain ⟨rfl, hc⟩ := hc
          rw [cell_of_heap c1]; exact q
        · rw [if_neg hc] at q
          exact hm.fz b o v q)
      (fun p' cap' q => .inl ⟨cap', q⟩)
      (by
        refine ⟨hok.ver, hok.n, hok.wd, fun q => ?_, fun p' cap' q => ?_, fun q => by simp at q, fun _ => rfl, hok.ub⟩
        · have q : s.blk = none := q
          rw [hblk] at q; simp at q
        · have q : s.blk = some (p', cap') := q
          rw [hblk] at q
          simp only [Option.some.injEq, Prod.mk.injEq] at q
          obtain ⟨rfl, rfl⟩ := q
          refine ⟨C, c1, c2, c3, c4, fun i j a hi ha => ?_, Nat.le_refl _, fun o ho => ?_, fun o ho => ?_⟩
          · obtain ⟨v, e1, e2⟩ := c5 i j a hi ha
            exact ⟨v, e1, e2.plain (fun b o v q => hz b o v q) (R.enc_plain _ _ _ (nth_mem ha))⟩
          · have ho : o < s.n * g.r.wid := ho
            exact if_pos ⟨rfl, ho⟩
          · have ho : s.n * g.r.wid ≤ o := ho
            show (if p = p ∧ o < s.n * g.r.wid then C[o]? else x.fz p o) = _
            rw [if_neg (by omega)]
            exact c8 o (by omega))
    refine ⟨_, p1, p2, fun lit => ?_⟩
    rw [tipVal_blk hblk]
    by_cases hl : g.l = []
    · have : s.n = 0 := by rw [hok.n, hl]; rfl
      rw [this]
      exact .lst0 _ _ _ _ _ _ _ _ hl (fun e => by simp at e) (fun e => by simp at e)
    · have hv : Value.slice (some ⟨p, 0, none⟩) s.n cap = .slice (some ⟨p, 0, none⟩) g.l.length cap := by rw [hok.n]
      rw [hv]
      refine .lst _ _ _ _ _ _ p 0 cap (fun i j => (C[i * g.r.wid + j]?).getD undef) hl (fun e => by simp at e) (by rw [← hok.n]; exact c3) (by rw [← hok.n]; omega) (fun i j a hi ha => ?_) (fun i j a hi ha => ?_)
      · obtain ⟨v, e1, e2⟩ := c5 i j a (by rw [hok.n]; exact hi) ha
        show (if p = p ∧ 0 + i * g.r.wid + j < s.n * g.r.wid then C[0 + i * g.r.wid + j]? else x.fz p (0 + i * g.r.wid + j)) = _
        rw [if_pos ⟨rfl, by rw [Nat.zero_add, hok.n]; exact elN_cell hi ha⟩, Nat.zero_add, e1]; rfl
      · obtain ⟨v, e1, e2⟩ := c5 i j a (by rw [hok.n]; exact hi) ha
        rw [e1]
        exact e2.plain (fun b o v e => p2.fz b o v e) (R.enc_plain _ _ _ (nth_mem ha))

theorem MemOk.nofz {x : Ctx} {m : Mem} {w : World} (hm : MemOk x m w) {h : Nat} {g : Stg} {s : SI} {p cap : Nat} (hg : nth m.stgs h = some g) (hs : nth x.S h = some s) (hb : s.blk = some (p, cap)) (hf : g.fzn = false) (o : Nat) : x.fz p o = none := by
  have hok := hm.stg h g s hg hs
  obtain ⟨C, _, _, _, _, _, _, _, c8⟩ := hok.row p cap hb
  exact c8 o (by rw [hok.fzn hf]; exact Nat.zero_le _)

/-! ### coded data -/
/-- The data are in range. -/
def R.ok : (r : R) → r.den → Prop
  | .int k, n => inR k n
  | .bool, _ => True
  | .str, _ => True
  | .sl r, l => l.length ≤ maxLen ∧ ∀ a ∈ l, r.ok a
  | .pair a b, x => a.ok x.1 ∧ b.ok x.2
  | .unit, _ => True
theorem RL.split {x : Ctx} : ∀ {a b : List A} {vs : List Value}, RL x (a ++ b) vs → ∃ v1 v2, vs = v1 ++ v2 ∧ RL x a v1 ∧ RL x b v2
  | [], b, vs, h => ⟨[], vs, rfl, trivial, h⟩
  | y :: a, b, v :: vs, h => by
    obtain ⟨v1, v2, rfl, h1, h2⟩ := RL.split (a := a) (b := b) h.2
    exact ⟨v :: v1, v2, rfl, ⟨h.1, h1⟩, h2⟩
  | _ :: _, _, [], h => h.elim
theorem R.ok_of : ∀ (r : R) (y : r.den) (x : Ctx) (vs : List Value), RL x (r.enc y) vs → r.ok y
  | .int k, n, x, vs, h => by
    match vs, h with
    | [v], h => exact (int_of h.1).2
  | .bool, _, _, _, _ => trivial
  | .str, _, _, _, _ => trivial
  | .sl r, l, x, vs, h => by
    match vs, h with
    | [v], h =>
      have h1 : RA x (.lst r false false false l) v := h.1
      refine ⟨?_, fun a ha => ?_⟩
      · cases h1 with
        | lst0 _ _ _ _ _ _ _ _ hn _ _ => rw [hn]; simp
        | lst _ _ _ _ _ _ p o cap c h0 hf hc hml hz hr => exact hml
      cases h1 with
      | lst0 _ _ _ _ _ _ _ _ hn _ _ => rw [hn] at ha; simp at ha
      | lst _ _ _ _ _ _ p o cap c h0 hf hc hml hz hr =>
        obtain ⟨i, hi⟩ := List.getElem?_of_mem ha
        have hlt := (List.getElem?_eq_some_iff.1 hi).1
        have he : elN r l i = r.enc a := by simp [elN, List.getD_eq_getElem?_getD, hi]
        refine R.ok_of r a x.bare ((List.range r.wid).map (c i)) (RL.of_nth (by simp [R.enc_len]) fun j b hb => ?_)
        have hj : j < r.wid := by have := nth_lt hb; rwa [R.enc_len] at this
        exact ⟨c i j, by simp [hj], hr i j b hlt (by rw [he]; exact hb)⟩
  | .pair a b, y, x, vs, h => by
    obtain ⟨v1, v2, rfl, h1, h2⟩ := RL.split h
    exact ⟨R.ok_of a _ x v1 h1, R.ok_of b _ x v2 h2⟩
  | .unit, _, _, _, _ => trivial
theorem RL.plain {x x' : Ctx} (hx : FzLe x x') : ∀ {l : List A} {vs : List Value}, (∀ a ∈ l, plainA a = true) → RL x l vs → RL x' l vs
  | [], [], _, _ => trivial
  | _ :: _, _ :: _, hp, h => ⟨h.1.plain hx (hp _ (by simp)), RL.plain hx (fun a ha => hp a (by simp [ha])) h.2⟩
  | [], _ :: _, _, h => h.elim
  | _ :: _, [], _, h => h.elim
theorem R.dec_ok : ∀ (r : R) (l : List A) (y : r.den) (t : List A), r.dec l = some (y, t) → ∀ (x : Ctx) (vs : List Value), RL x l vs → ∃ v1 v2, vs = v1 ++ v2 ∧ RL x (r.enc y) v1 ∧ RL x t v2
  | .int k, l, y, t, h, x, vs, hv => by
    simp only [R.dec] at h
    unfold decI at h
    split at h <;> (try simp at h)
    rename_i k' n l'
    split at h
    · rename_i hk
      have := sameK_eq hk; subst this
      simp only [Option.some.injEq, Prod.mk.injEq] at h
      obtain ⟨rfl, rfl⟩ := h
      match vs, hv with
      | v :: vs, hv =>
        obtain ⟨rfl, hr⟩ := int_of hv.1
        exact ⟨[_], vs, rfl, ⟨.int _ _ _ _ hr, trivial⟩, hv.2⟩
    · simp at h
  | .bool, l, y, t, h, x, vs, hv => by
    simp only [R.dec] at h
    unfold decB at h
    split at h <;> (try simp at h)
    obtain ⟨rfl, rfl⟩ := h
    match vs, hv with
    | v :: vs, hv =>
      have := bool_of hv.1; subst this
      exact ⟨[_], vs, rfl, ⟨.bool _ _ _, trivial⟩, hv.2⟩
  | .str, l, y, t, h, x, vs, hv => by
    simp only [R.dec] at h
    unfold decS at h
    split at h <;> (try simp at h)
    obtain ⟨rfl, rfl⟩ := h
    match vs, hv with
    | v :: vs, hv => exact ⟨[v], vs, rfl, ⟨hv.1, trivial⟩, hv.2⟩
  | .sl r, l, y, t, h, x, vs, hv => by
    simp only [R.dec] at h
    unfold decL at h
    split at h <;> (try simp at h)
    · rename_i r' _ _ _ l' t'
      split at h
      · rename_i e he
        simp only [Option.some.injEq, Prod.mk.injEq] at h
        obtain ⟨rfl, rfl⟩ := h
        cases e
        match vs, hv with
        | v :: vs, hv => exact ⟨[v], vs, rfl, ⟨RA.lst_weak (f' := false) (g' := false) hv.1 (fun e => by simp at e) (fun e => by simp at e), trivial⟩, hv.2⟩
      · simp at h
    · obtain ⟨rfl, rfl⟩ := h
      match vs, hv with
      | v :: vs, hv => exact ⟨[v], vs, rfl, ⟨RA.nil_lst hv.1, trivial⟩, hv.2⟩
  | .pair a b, l, y, t, h, x, vs, hv => by
    simp only [R.dec] at h
    split at h
    · rename_i y1 t1 h1
      split at h
      · rename_i y2 t2 h2
        simp only [Option.some.injEq, Prod.mk.injEq] at h
        obtain ⟨rfl, rfl⟩ := h
        obtain ⟨v1, u, rfl, e1, e2⟩ := R.dec_ok a _ _ _ h1 x vs hv
        obtain ⟨v2, u2, rfl, e3, e4⟩ := R.dec_ok b _ _ _ h2 x u e2
        exact ⟨v1 ++ v2, u2, by simp, e1.append e3, e4⟩
      · simp at h
    · simp at h
  | .unit, l, y, t, h, x, vs, hv => by
    simp only [R.dec, Option.some.injEq, Prod.mk.injEq, true_and] at h
    subst h
    exact ⟨[], vs, rfl, trivial, hv⟩
theorem R.decW_ok {r : R} {l : List A} {y : r.den} (h : r.decW l = some y) {x : Ctx} {vs : List Value} (hv : RL x l vs) : RL x (r.enc y) vs := by
  unfold R.decW at h
  split at h
  · rename_i y' he
    simp only [Option.some.injEq] at h; subst h
    obtain ⟨v1, v2, rfl, h1, h2⟩ := R.dec_ok _ _ _ _ he x vs hv
    have : v2 = [] := by cases v2 with | nil => rfl | cons _ _ => exact h2.elim
    subst this; simpa using h1
  · simp at h
end Go.S3
