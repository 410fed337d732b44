/-
  Soundness of the symbolic executor, part 7: what a piece of code has not written it has not changed. Conditions: none (lemmas).
-/
import Derived.Test.YtiflfdlglncjlaaS3Ev3
set_option linter.unusedSimpArgs false
set_option linter.unusedVariables false
namespace Go.S3

def RT.All {α : Type} (p : α → Prop) : RT α → Prop
  | .leaf a => p a
  | .br _ t e => t.All p ∧ e.All p
theorem RT.All.val {α : Type} {p : α → Prop} : ∀ {t : RT α}, t.All p → p t.val
  | .leaf _, h => h
  | .br true _ _, h => h.1.val
  | .br false _ _, h => h.2.val
theorem RT.All.mono {α : Type} {p q : α → Prop} (h : ∀ a, p a → q a) : ∀ {t : RT α}, t.All p → t.All q
  | .leaf _, k => h _ k
  | .br _ _ _, k => ⟨k.1.mono h, k.2.mono h⟩
theorem RT.All.map {α β : Type} {p : β → Prop} {f : α → β} : ∀ {t : RT α}, t.All (fun a => p (f a)) → (t.map f).All p
  | .leaf _, k => k
  | .br _ _ _, k => ⟨k.1.map, k.2.map⟩
theorem RT.All.bind {α β : Type} {p : β → Prop} {f : α → RT β} : ∀ {t : RT α}, t.All (fun a => (f a).All p) → (t.bind f).All p
  | .leaf _, k => k
  | .br _ _ _, k => ⟨k.1.bind, k.2.bind⟩
theorem RT.val_map {α β : Type} (f : α → β) : ∀ t : RT α, (t.map f).val = f t.val
  | .leaf _ => rfl
  | .br b t e => by simp only [RT.map, RT.val, RT.val_map f t, RT.val_map f e]; cases b <;> rfl
theorem RT.val_bind {α β : Type} (f : α → RT β) : ∀ t : RT α, (t.bind f).val = (f t.val).val
  | .leaf _ => rfl
  | .br b t e => by simp only [RT.bind, RT.val, RT.val_bind f t, RT.val_bind f e]; cases b <;> rfl

theorem tbit_eq (m n : Nat) : tbit m n = m.testBit n := by
  have h : Nat.land 1 (Nat.shiftRight m n) = (m >>> n) % 2 := by
    have : Nat.land 1 (Nat.shiftRight m n) = 1 &&& (m >>> n) := rfl
    rw [this, Nat.and_comm, Nat.and_one_is_mod]
  unfold tbit
  rw [h, Nat.testBit_eq_decide_div_mod_eq, Nat.shiftRight_eq_div_pow]
  by_cases e : m / 2 ^ n % 2 = 1
  · simp [e]
  · simp only [e, decide_false]
    rw [Bool.eq_false_iff]; intro h2; exact e (Nat.eq_of_beq_eq_true h2)
theorem tbit_lor (a b i : Nat) : tbit (Nat.lor a b) i = (tbit a i || tbit b i) := by
  rw [tbit_eq, tbit_eq, tbit_eq]; exact Nat.testBit_or a b i
theorem tbit_zero (i : Nat) : tbit 0 i = false := by rw [tbit_eq]; simp
theorem tbit_setB (m n i : Nat) : tbit (setB m n) i = (Nat.beq n i || tbit m i) := by
  unfold setB
  rw [tbit_lor, Bool.or_comm, tbit_eq (Nat.shiftLeft 1 n)]
  congr 1
  have : Nat.shiftLeft 1 n = 2 ^ n := by
    have : Nat.shiftLeft 1 n = 1 <<< n := rfl
    rw [this, Nat.one_shiftLeft]
  rw [this, Nat.testBit_two_pow]
  by_cases e : n = i
  · subst e; simp
  · simp only [e, decide_false]
    symm; rw [Bool.eq_false_iff]; intro h2; exact e (Nat.eq_of_beq_eq_true h2)
theorem tbit_allB (n i : Nat) : tbit (allB n) i = true ↔ i < n := by
  unfold allB
  have : Nat.shiftLeft 1 n = 2 ^ n := by
    have : Nat.shiftLeft 1 n = 1 <<< n := rfl
    rw [this, Nat.one_shiftLeft]
  rw [this, tbit_eq]
  have e : Nat.sub (2 ^ n) 1 = 2 ^ n - 1 := rfl
  rw [e, Nat.testBit_two_pow_sub_one]; simp
theorem memN_addN (l : List Nat) (t n : Nat) : memN (addN l t) n = (Nat.beq t n || memN l n) := by
  unfold addN
  split
  · rename_i h
    by_cases e : t = n
    · subst e; simp [h]
    · have : Nat.beq t n = false := by rw [Bool.eq_false_iff]; intro h'; rw [Nat.beq_eq] at h'; exact e h'
      simp [this]
  · rfl
theorem memN_joinN (l : List Nat) : ∀ (r : List Nat) (n : Nat), memN (joinN l r) n = (memN l n || memN r n)
  | [], n => by simp [joinN, memN]
  | t :: r, n => by
    rw [joinN, memN_joinN (addN l t) r n, memN_addN, memN]
    cases Nat.beq t n <;> cases memN l n <;> simp
theorem memP_addP (l : List (Nat × Nat)) (b o c d : Nat) : memP (addP l b o) c d = ((Nat.beq b c && Nat.beq o d) || memP l c d) := by
  unfold addP
  split
  · rename_i h
    by_cases e : b = c ∧ o = d
    · obtain ⟨rfl, rfl⟩ := e; simp [h]
    · have : (Nat.beq b c && Nat.beq o d) = false := by
        rw [Bool.eq_false_iff]; intro h'; simp at h'; exact e h'
      simp [this]
  · rfl
theorem memP_joinP (l : List (Nat × Nat)) : ∀ (r : List (Nat × Nat)) (c d : Nat), memP (joinP l r) c d = (memP l c d || memP r c d)
  | [], c, d => by simp [joinP, memP]
  | (b, o) :: r, c, d => by
    rw [joinP, memP_joinP (addP l b o) r c d, memP_addP, memP]
    cases (Nat.beq b c && Nat.beq o d) <;> cases memP l c d <;> simp
theorem memP_addBD (b : Nat) : ∀ (n o : Nat) (l : List (Nat × Nat)) (c d : Nat), memP (addBD l b o n) c d = (memP l c d || (Nat.beq b c && decide (o ≤ d ∧ d < o + n)))
  | 0, o, l, c, d => by simp [addBD]; omega
  | n + 1, o, l, c, d => by
    rw [addBD, memP_addBD b n (o + 1) _ c d, memP_addP]
    by_cases h1 : Nat.beq b c = true
    · rw [h1]
      simp only [Bool.true_and]
      rw [Bool.eq_iff_iff]
      simp only [Bool.or_eq_true, Nat.beq_eq, decide_eq_true_eq]
      constructor
      · rintro ((rfl | h) | h)
        · exact .inr (by omega)
        · exact .inl h
        · exact .inr (by omega)
      · rintro (h | h)
        · exact .inl (.inr h)
        · by_cases e : o = d
          · exact .inl (.inl e)
          · exact .inr (by omega)
    · simp [Bool.eq_false_iff.2 (by simpa using h1 : ¬ Nat.beq b c = true)]

/-- What is not on o's lists is in o as it is in s. -/
structure Keep (s o : St) : Prop where
  sl : o.slots.length = s.slots.length
  slot : ∀ t, tbit o.dirty t = false → tbit s.dirty t = false ∧ nth o.slots t = nth s.slots t
  bl : s.mem.boxes.length ≤ o.mem.boxes.length
  box : ∀ b l, nth s.mem.boxes b = some l → ∃ l', nth o.mem.boxes b = some l' ∧ l'.length = l.length ∧ ∀ j, memP o.bd b j = false → memP s.bd b j = false ∧ nth l' j = nth l j
  gl : s.mem.stgs.length ≤ o.mem.stgs.length
  stg : ∀ h g, nth s.mem.stgs h = some g → ∃ g', nth o.mem.stgs h = some g' ∧ g.ver ≤ g'.ver ∧ (memN o.sd h = false → memN s.sd h = false ∧ g' = g)

theorem Keep.refl (s : St) : Keep s s := ⟨rfl, fun _ h => ⟨h, rfl⟩, Nat.le_refl _, fun _ l h => ⟨l, h, rfl, fun _ k => ⟨k, rfl⟩⟩, Nat.le_refl _, fun _ g h => ⟨g, h, Nat.le_refl _, fun k => ⟨k, rfl⟩⟩⟩
theorem Keep.trans {a b c : St} (h : Keep a b) (k : Keep b c) : Keep a c where
  sl := k.sl.trans h.sl
  slot := fun t ht => let ⟨h1, h2⟩ := k.slot t ht; let ⟨h3, h4⟩ := h.slot t h1; ⟨h3, h2.trans h4⟩
  bl := Nat.le_trans h.bl k.bl
  box := fun b l hl => by
    obtain ⟨l1, h1, h2, h3⟩ := h.box b l hl
    obtain ⟨l2, h4, h5, h6⟩ := k.box b l1 h1
    exact ⟨l2, h4, h5.trans h2, fun j hj => let ⟨q1, q2⟩ := h6 j hj; let ⟨q3, q4⟩ := h3 j q1; ⟨q3, q2.trans q4⟩⟩
  gl := Nat.le_trans h.gl k.gl
  stg := fun i g hg => by
    obtain ⟨g1, h1, h2, h3⟩ := h.stg i g hg
    obtain ⟨g2, h4, h5, h6⟩ := k.stg i g1 h1
    exact ⟨g2, h4, Nat.le_trans h2 h5, fun hj => let ⟨q1, q2⟩ := h6 hj; let ⟨q3, q4⟩ := h3 q1; ⟨q3, q2.trans q4⟩⟩

theorem Keep.put (s : St) (d : Option Nat) (v : V) : Keep s (put s d v) := by
  cases d with
  | none => exact Keep.refl s
  | some d =>
    refine ⟨by simp [S3.put, setN_eq], fun t ht => ?_, Nat.le_refl _, fun _ l h => ⟨l, h, rfl, fun _ k => ⟨k, rfl⟩⟩, Nat.le_refl _, fun _ g h => ⟨g, h, Nat.le_refl _, fun k => ⟨k, rfl⟩⟩⟩
    simp only [S3.put, tbit_setB, Bool.or_eq_false_iff] at ht
    refine ⟨ht.2, ?_⟩
    have : d ≠ t := by intro e; subst e; simp at ht
    simp only [S3.put]
    rw [nth_set_ne this]

theorem putN_length : ∀ {vs l r : List A} {o : Nat}, putN l o vs = some r → r.length = l.length
  | [], l, r, o, h => by simp [putN] at h; simp [h]
  | v :: vs, l, r, o, h => by
    simp only [putN] at h
    split at h
    · have := putN_length h; simpa [setN_eq] using this
    · simp at h
theorem putN_nth : ∀ {vs l r : List A} {o : Nat}, putN l o vs = some r → ∀ j, ¬ (o ≤ j ∧ j < o + vs.length) → nth r j = nth l j
  | [], l, r, o, h, j, _ => by simp [putN] at h; simp [h]
  | v :: vs, l, r, o, h, j, hj => by
    simp only [putN] at h
    split at h
    · simp only [List.length_cons] at hj
      have := putN_nth h j (by omega)
      rw [this, nth_eq, nth_eq, setN_eq, List.getElem?_set_ne (by omega)]
    · simp at h

/-- The memory of an operation's result. -/
structure KeepR (s : St) (r : Res) : Prop where
  bl : s.mem.boxes.length ≤ r.m.boxes.length
  box : ∀ b l, nth s.mem.boxes b = some l → ∃ l', nth r.m.boxes b = some l' ∧ l'.length = l.length ∧ ∀ j, memP r.bd b j = false → memP s.bd b j = false ∧ nth l' j = nth l j
  gl : s.mem.stgs.length ≤ r.m.stgs.length
  stg : ∀ h g, nth s.mem.stgs h = some g → ∃ g', nth r.m.stgs h = some g' ∧ g.ver ≤ g'.ver ∧ (memN r.sd h = false → memN s.sd h = false ∧ g' = g)
theorem KeepR.still {s : St} {r : Res} (h1 : r.m = s.mem) (h2 : r.bd = s.bd) (h3 : r.sd = s.sd) : KeepR s r := by
  refine ⟨by rw [h1]; exact Nat.le_refl _, fun b l h => ⟨l, by rw [h1]; exact h, rfl, fun j k => ⟨by rw [← h2]; exact k, rfl⟩⟩, by rw [h1]; exact Nat.le_refl _, fun i g h => ⟨g, by rw [h1]; exact h, Nat.le_refl _, fun k => ⟨by rw [← h3]; exact k, rfl⟩⟩⟩
theorem KeepR.keep {s : St} {r : Res} (h : KeepR s r) (d : Option Nat) : Keep s (putRes s d r) :=
  Keep.trans (b := { s with mem := r.m, bd := r.bd, sd := r.sd }) ⟨rfl, fun _ h => ⟨h, rfl⟩, h.bl, h.box, h.gl, h.stg⟩ (Keep.put _ _ _)
theorem KeepR.of {s s' : St} (h : Keep s s') (chk : Option Bool) (v : V) : KeepR s (ofSt s' chk v) := ⟨h.bl, h.box, h.gl, h.stg⟩
theorem KeepR.trans {s s' : St} {r : Res} (h : Keep s s') (k : KeepR s' r) : KeepR s r := by
  have := h.trans (c := { s' with mem := r.m, bd := r.bd, sd := r.sd }) ⟨rfl, fun _ h => ⟨h, rfl⟩, k.bl, k.box, k.gl, k.stg⟩
  exact ⟨this.bl, this.box, this.gl, this.stg⟩
theorem newBox_keep (s : St) (l : List A) : KeepR s (newBox s l) := by
  refine ⟨by simp [newBox], fun b l' h => ⟨l', nth_append_left h, rfl, fun j k => ⟨k, rfl⟩⟩, Nat.le_refl _, fun _ g h => ⟨g, h, Nat.le_refl _, fun k => ⟨k, rfl⟩⟩⟩
theorem newStg_keep (s : St) (g : Stg) (chk : Option Bool) : KeepR s (newStg s g chk) := by
  refine ⟨Nat.le_refl _, fun b l' h => ⟨l', h, rfl, fun j k => ⟨k, rfl⟩⟩, by simp [newStg], fun _ g h => ⟨g, nth_append_left h, Nat.le_refl _, fun k => ⟨k, rfl⟩⟩⟩
/-- One slice changes. -/
theorem setStg_keep {s : St} {h : Nat} {g g' : Stg} (hg : nth s.mem.stgs h = some g) (hv : g.ver ≤ g'.ver) (chk : Option Bool) (v : V) :
    KeepR s { chk := chk, v := v, m := { s.mem with stgs := setN s.mem.stgs h g' }, bd := s.bd, sd := addN s.sd h } := by
  refine ⟨Nat.le_refl _, fun b l' h => ⟨l', h, rfl, fun j k => ⟨k, rfl⟩⟩, by simp [setN_eq], fun i g1 h1 => ?_⟩
  by_cases e : h = i
  · subst e
    have : g1 = g := by rw [hg] at h1; simpa using h1.symm
    subst this
    exact ⟨g', nth_set_self hg, hv, fun k => by rw [memN_addN] at k; simp at k⟩
  · refine ⟨g1, by show nth (setN _ _ _) _ = _; rw [nth_set_ne e]; exact h1, Nat.le_refl _, fun k => ?_⟩
    rw [memN_addN, Bool.or_eq_false_iff] at k
    exact ⟨k.2, rfl⟩

theorem freezeA_keep {s s' : St} {a a' : A} (h : freezeA s a = some (a', s')) : Keep s s' := by
  cases a with
  | tip hh ver =>
    simp only [freezeA] at h
    split at h
    · rename_i g hg
      split at h
      · simp only [Option.some.injEq, Prod.mk.injEq] at h
        obtain ⟨_, rfl⟩ := h
        exact Keep.refl s
      · simp only [Option.some.injEq, Prod.mk.injEq] at h
        obtain ⟨_, rfl⟩ := h
        have := setStg_keep (g' := { g with fzn := true, ffz := true }) (stgOf_some hg).1 (Nat.le_refl _) none (.w .junk)
        exact ⟨rfl, fun _ h => ⟨h, rfl⟩, this.bl, this.box, this.gl, this.stg⟩
    · simp at h
  | sp _ _ _ _ => simp [freezeA] at h
  | _ => simp only [freezeA, Option.some.injEq, Prod.mk.injEq] at h; obtain ⟨_, rfl⟩ := h; exact Keep.refl s
theorem freezeL_keep : ∀ {l l' : List A} {s s' : St}, freezeL s l = some (l', s') → Keep s s'
  | [], l', s, s', h => by
    simp only [freezeL, Option.some.injEq, Prod.mk.injEq] at h
    obtain ⟨_, rfl⟩ := h
    exact Keep.refl s
  | a :: l, l', s, s', h => by
    simp only [freezeL] at h
    split at h
    · rename_i b s1 h1
      split at h
      · rename_i r s2 h2
        simp only [Option.some.injEq, Prod.mk.injEq] at h
        obtain ⟨_, rfl⟩ := h
        exact (freezeA_keep h1).trans (freezeL_keep h2)
      · simp at h
    · simp at h
theorem freezeV_keep {s s' : St} {v v' : V} (h : freezeV s v = some (v', s')) : Keep s s' := by
  cases v with
  | w a =>
    simp only [freezeV] at h
    split at h
    · rename_i b s1 h1
      simp only [Option.some.injEq, Prod.mk.injEq] at h
      obtain ⟨_, rfl⟩ := h
      cases a with
      | one a =>
        simp only [freezeW] at h1
        split at h1
        · rename_i c s2 h2
          simp only [Option.some.injEq, Prod.mk.injEq] at h1
          obtain ⟨_, rfl⟩ := h1
          exact freezeA_keep h2
        · simp at h1
      | agg l =>
        simp only [freezeW] at h1
        split at h1
        · rename_i c s2 h2
          simp only [Option.some.injEq, Prod.mk.injEq] at h1
          obtain ⟨_, rfl⟩ := h1
          exact freezeL_keep h2
        · simp at h1
      | junk =>
        simp only [freezeW, Option.some.injEq, Prod.mk.injEq] at h1
        obtain ⟨_, rfl⟩ := h1
        exact Keep.refl s
    · simp at h
  | tup l =>
    simp only [freezeV, Option.some.injEq, Prod.mk.injEq] at h
    obtain ⟨_, rfl⟩ := h
    exact Keep.refl s
theorem freezeVs_keep : ∀ {l l' : List V} {s s' : St}, freezeVs s l = some (l', s') → Keep s s'
  | [], l', s, s', h => by
    simp only [freezeVs, Option.some.injEq, Prod.mk.injEq] at h
    obtain ⟨_, rfl⟩ := h
    exact Keep.refl s
  | a :: l, l', s, s', h => by
    simp only [freezeVs] at h
    split at h
    · rename_i b s1 h1
      split at h
      · rename_i r s2 h2
        simp only [Option.some.injEq, Prod.mk.injEq] at h
        obtain ⟨_, rfl⟩ := h
        exact (freezeV_keep h1).trans (freezeVs_keep h2)
      · simp at h
    · simp at h
theorem freezeC_keep : ∀ {l l' : List (Nat × Option (List A))} {s s' : St}, freezeC s l = some (l', s') → Keep s s'
  | [], l', s, s', h => by
    simp only [freezeC, Option.some.injEq, Prod.mk.injEq] at h
    obtain ⟨_, rfl⟩ := h
    exact Keep.refl s
  | (i, some a) :: l, l', s, s', h => by
    simp only [freezeC] at h
    split at h
    · rename_i b s1 h1
      split at h
      · rename_i r s2 h2
        simp only [Option.some.injEq, Prod.mk.injEq] at h
        obtain ⟨_, rfl⟩ := h
        exact (freezeL_keep h1).trans (freezeC_keep h2)
      · simp at h
    · simp at h
  | (_, none) :: _, _, _, _, h => by simp [freezeC] at h

section
variable {P : Program} {s : St} {r : Res}
theorem ofSt_keep {s' : St} {chk : Option Bool} {v : V} (h : ofSt s' chk v = r) (k : Keep s s') : KeepR s r := h ▸ KeepR.of k chk v
theorem pureR_keep {a : A} (h : pureR s a = some r) : KeepR s r := by simp only [pureR, Option.some.injEq] at h; subst h; exact .still rfl rfl rfl
theorem valR_keep {a : V} (h : valR s a = some r) : KeepR s r := by simp only [valR, Option.some.injEq] at h; subst h; exact .still rfl rfl rfl
theorem indexA_keep {t : TypeId} {l : List A} {i : A} (h : indexA P s t l i = some r) : KeepR s r := by
  unfold indexA at h
  repeat' split at h
  all_goals first
    | exact valR_keep h
    | (simp at h; done)
    | (simp only [Option.some.injEq] at h; subst h; exact .still rfl rfl rfl)
theorem indexAddrA_keep {t : TypeId} {x i : A} (h : indexAddrA P s t x i = some r) : KeepR s r := by
  unfold indexAddrA at h
  repeat' split at h
  all_goals first
    | exact pureR_keep h
    | (simp at h; done)
    | (simp only [Option.some.injEq] at h; subst h; exact .still rfl rfl rfl)
theorem sliceB_keep {t : TypeId} {x : A} {lo hi mx : Option Operand} (h : sliceB P s t x lo hi mx = some r) : KeepR s r := by
  unfold sliceB at h
  repeat' split at h
  all_goals first
    | (simp at h; done)
    | (simp only [Option.some.injEq] at h; subst h; exact .still rfl rfl rfl)
theorem sliceA_keep {t : TypeId} {x : A} {lo hi mx : Option Operand} (h : sliceA P s t x lo hi mx = some r) : KeepR s r := by
  unfold sliceA at h
  split at h
  · rename_i x' s' hf
    split at h
    · simp at h
    · exact KeepR.trans (freezeA_keep hf) (sliceB_keep h)
  · simp at h
theorem buildSliceB_keep {t : TypeId} {n : Nat} {ps : List (Nat × Option (List A))} (h : buildSliceB P s t n ps = some r) : KeepR s r := by
  unfold buildSliceB at h
  repeat' split at h
  all_goals first
    | (simp at h; done)
    | (simp only [Option.some.injEq] at h; subst h; exact .still rfl rfl rfl)
theorem makeSliceA_keep {t : TypeId} {l c : A} (h : makeSliceA P s t l c = some r) : KeepR s r := by
  unfold makeSliceA at h
  repeat' split at h
  all_goals first
    | (simp at h; done)
    | (simp only [Option.some.injEq] at h; subst h; exact newStg_keep _ _ _)
theorem appendA_keep {t t' : TypeId} {x y : A} (h : appendA P s t t' x y = some r) : KeepR s r := by
  unfold appendA at h
  repeat' split at h
  all_goals first
    | (simp at h; done)
    | (simp only [Option.some.injEq] at h; subst h; exact newStg_keep _ _ _)
    | (simp only [Option.some.injEq] at h; subst h; exact .still rfl rfl rfl)
    | skip
  · rename_i g hg _ _
    simp only [Option.some.injEq] at h; subst h
    obtain ⟨h1, h2⟩ := stgOf_some hg
    exact setStg_keep h1 (by simp only; omega) _ _
theorem lenA_keep {t : TypeId} {v : V} (h : lenA P s t v = some r) : KeepR s r := by
  unfold lenA at h
  repeat' split at h
  all_goals first
    | exact pureR_keep h
    | (simp at h; done)
theorem convertA_keep {t t' : TypeId} {x : A} (h : convertA P s t t' x = some r) : KeepR s r := by
  unfold convertA at h
  repeat' split at h
  all_goals first
    | exact pureR_keep h
    | (simp at h; done)
theorem storeA_keep {t : TypeId} {p : A} {l : List A} (h : storeA P s t p l = some r) : KeepR s r := by
  unfold storeA at h
  split at h
  · simp at h
  · rename_i n hn
    split at h
    · simp at h
    · rename_i hbeq
      simp only [Nat.beq_eq, len_eq] at hbeq
      split at h
      · rename_i b off
        split at h
        · simp at h
        · rename_i c hcb
          split at h
          · simp at h
          · rename_i c' hput
            simp only [Option.some.injEq] at h; subst h
            refine ⟨by simp [setN_eq], fun b' l' hb' => ?_, Nat.le_refl _, fun _ g h => ⟨g, h, Nat.le_refl _, fun k => ⟨k, rfl⟩⟩⟩
            by_cases e : b = b'
            · subst e
              have : l' = c := by rw [hcb] at hb'; simpa using hb'.symm
              subst this
              refine ⟨c', nth_set_self hcb, putN_length hput, fun j hj => ?_⟩
              rw [memP_addBD, Bool.or_eq_false_iff] at hj
              refine ⟨hj.1, putN_nth hput j ?_⟩
              have := hj.2
              simp at this
              rw [← hbeq]; omega
            · refine ⟨l', by show nth (setN _ _ _) _ = _; rw [nth_set_ne e]; exact hb', rfl, fun j hj => ?_⟩
              rw [memP_addBD, Bool.or_eq_false_iff] at hj
              exact ⟨hj.1, rfl⟩
      · rename_i hh v i off
        split at h
        · simp at h
        · rename_i g hg
          split at h
          · simp at h
          · split at h
            · simp at h
            · split at h
              · simp at h
              · simp only [Option.some.injEq] at h; subst h
                refine setStg_keep (stgOf_some hg).1 ?_ _ _
                exact Nat.le_refl _
      · simp at h
theorem builtinA_keep {b : Builtin} {ts : List TypeId} {vs : List V} (h : builtinA P s b ts vs = some r) : KeepR s r := by
  unfold builtinA at h
  split at h
  · split at h
    · exact pureR_keep h
    · simp at h
  · split at h
    · exact pureR_keep h
    · simp at h
  · exact lenA_keep h
  · exact appendA_keep h
  · simp at h
end

theorem evOp_keep {E : Env} {s : St} {op : Op} {r : Res} (h : evOp E s op = some r) : KeepR s r := by
  unfold evOp at h
  repeat' split at h
  all_goals first
    | exact pureR_keep h
    | exact valR_keep h
    | (simp at h; done)
    | (rw [Option.bind_eq_some_iff] at h; obtain ⟨z, _, h⟩ := h; exact pureR_keep h)
    | (rw [Option.map_eq_some_iff] at h; obtain ⟨z, _, rfl⟩ := h; exact newBox_keep s z)
    | exact indexA_keep h
    | exact indexAddrA_keep h
    | exact sliceA_keep h
    | exact makeSliceA_keep h
    | exact convertA_keep h
    | exact storeA_keep h
    | (simp only [Option.some.injEq] at h; subst h; exact .still rfl rfl rfl)
    | skip
  · unfold buildSliceA at h
    split at h
    · rename_i ps s' hf
      exact KeepR.trans (freezeC_keep hf) (buildSliceB_keep h)
    · simp at h

/-- What a call's code has not written it has not changed. -/
structure KeepC (m : Mem) (r : Res) : Prop where
  bl : m.boxes.length ≤ r.m.boxes.length
  box : ∀ b l, nth m.boxes b = some l → ∃ l', nth r.m.boxes b = some l' ∧ l'.length = l.length ∧ ∀ j, memP r.bd b j = false → nth l' j = nth l j
  gl : m.stgs.length ≤ r.m.stgs.length
  stg : ∀ h g, nth m.stgs h = some g → ∃ g', nth r.m.stgs h = some g' ∧ g.ver ≤ g'.ver ∧ (memN r.sd h = false → g' = g)
theorem KeepC.keepR {s : St} {r : Res} (h : KeepC s.mem r) : KeepR s (callRes s r) := by
  refine ⟨h.bl, fun b l hl => ?_, h.gl, fun i g hg => ?_⟩
  · obtain ⟨l', h1, h2, h3⟩ := h.box b l hl
    refine ⟨l', h1, h2, fun j hj => ?_⟩
    simp only [callRes, memP_joinP, Bool.or_eq_false_iff] at hj
    exact ⟨hj.1, h3 j hj.2⟩
  · obtain ⟨g', h1, h2, h3⟩ := h.stg i g hg
    refine ⟨g', h1, h2, fun hj => ?_⟩
    simp only [callRes, memN_joinN, Bool.or_eq_false_iff] at hj
    exact ⟨hj.1, h3 hj.2⟩

abbrev AllK (s : St) (t : RT Out) : Prop := t.All (fun o => Keep s o.s)

theorem AllK.trans {a b : St} (h : Keep a b) {t : RT Out} (k : AllK b t) : AllK a t := k.mono fun _ q => h.trans q
theorem stop_keep (s : St) : AllK s (stopT s) := Keep.refl s
theorem chkT_keep {s : St} {c : Option Bool} {t : RT Out} (h : AllK s t) : AllK s (chkT c s t) := by
  cases c with
  | none => exact h
  | some b => exact ⟨h, Keep.refl s⟩
end Go.S3
