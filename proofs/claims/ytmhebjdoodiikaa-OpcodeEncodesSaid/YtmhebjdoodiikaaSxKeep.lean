/-
  Soundness of the symbolic executor, part 7: what a piece of code has not written it has not changed. Conditions: none (lemmas).
-/
import Derived.Test.YtmhebjdoodiikaaSxEv3
namespace Go.Sx

def RT.All {α : Type} (p : α → Prop) : RT α → Prop
  | .leaf a => p a
  | .br _ t e => t.All p ∧ e.All p
theorem RT.All.val {α : Type} {p : α → Prop} : ∀ {t : RT α}, t.All p → p t.val
  | .leaf _, h => h
  | .br true _ _, h => h.1.val
  | .br false _ _, h => h.2.val
theorem RT.All.mono {α : Type} {p q : α → Prop} (h : ∀ a, p a → q a) : ∀ {t : RT α}, t.All p → t.All q
  | .leaf _, k => h _ k
  | .br _ _ _, k => ⟨k.1.mono h, k.2.mono h⟩
theorem RT.All.map {α β : Type} {p : β → Prop} {f : α → β} : ∀ {t : RT α}, t.All (fun a => p (f a)) → (t.map f).All p
  | .leaf _, k => k
  | .br _ _ _, k => ⟨k.1.map, k.2.map⟩
theorem RT.All.bind {α β : Type} {p : β → Prop} {f : α → RT β} : ∀ {t : RT α}, t.All (fun a => (f a).All p) → (t.bind f).All p
  | .leaf _, k => k
  | .br _ _ _, k => ⟨k.1.bind, k.2.bind⟩
theorem RT.val_map {α β : Type} (f : α → β) : ∀ t : RT α, (t.map f).val = f t.val
  | .leaf _ => rfl
  | .br b t e => by simp only [RT.map, RT.val, RT.val_map f t, RT.val_map f e]; cases b <;> rfl
theorem RT.val_bind {α β : Type} (f : α → RT β) : ∀ t : RT α, (t.bind f).val = (f t.val).val
  | .leaf _ => rfl
  | .br b t e => by simp only [RT.bind, RT.val, RT.val_bind f t, RT.val_bind f e]; cases b <;> rfl

theorem memN_addN (l : List Nat) (t n : Nat) : memN (addN l t) n = (Nat.beq t n || memN l n) := by
  unfold addN
  split
  · rename_i h
    by_cases e : t = n
    · subst e; simp [h]
    · have : Nat.beq t n = false := by rw [Bool.eq_false_iff]; intro h'; rw [Nat.beq_eq] at h'; exact e h'
      simp [this]
  · rfl
theorem memN_joinN (l : List Nat) : ∀ (r : List Nat) (n : Nat), memN (joinN l r) n = (memN l n || memN r n)
  | [], n => by simp [joinN, memN]
  | t :: r, n => by
    rw [joinN, memN_joinN (addN l t) r n, memN_addN, memN]
    cases Nat.beq t n <;> cases memN l n <;> simp
theorem memP_addP (l : List (Nat × Nat)) (b o c d : Nat) : memP (addP l b o) c d = ((Nat.beq b c && Nat.beq o d) || memP l c d) := by
  unfold addP
  split
  · rename_i h
    by_cases e : b = c ∧ o = d
    · obtain ⟨rfl, rfl⟩ := e; simp [h]
    · have : (Nat.beq b c && Nat.beq o d) = false := by
        rw [Bool.eq_false_iff]; intro h'; simp at h'; exact e h'
      simp [this]
  · rfl
theorem memP_joinP (l : List (Nat × Nat)) : ∀ (r : List (Nat × Nat)) (c d : Nat), memP (joinP l r) c d = (memP l c d || memP r c d)
  | [], c, d => by simp [joinP, memP]
  | (b, o) :: r, c, d => by
    rw [joinP, memP_joinP (addP l b o) r c d, memP_addP, memP]
    cases (Nat.beq b c && Nat.beq o d) <;> cases memP l c d <;> simp
theorem memP_addBD (b : Nat) : ∀ (n o : Nat) (l : List (Nat × Nat)) (c d : Nat), memP (addBD l b o n) c d = (memP l c d || (Nat.beq b c && decide (o ≤ d ∧ d < o + n)))
  | 0, o, l, c, d => by simp [addBD]; omega
  | n + 1, o, l, c, d => by
    rw [addBD, memP_addBD b n (o + 1) _ c d, memP_addP]
    by_cases h1 : Nat.beq b c = true
    · rw [h1]
      simp only [Bool.true_and]
      rw [Bool.eq_iff_iff]
      simp only [Bool.or_eq_true, Nat.beq_eq, decide_eq_true_eq]
      constructor
      · rintro ((rfl | h) | h)
        · exact .inr (by omega)
        · exact .inl h
        · exact .inr (by omega)
      · rintro (h | h)
        · exact .inl (.inr h)
        · by_cases e : o = d
          · exact .inl (.inl e)
          · exact .inr (by omega)
    · simp [Bool.eq_false_iff.2 (by simpa using h1 : ¬ Nat.beq b c = true)]

/-- What is not on o's lists is in o as it is in s. -/
structure Keep (s o : St) : Prop where
  sl : o.slots.length = s.slots.length
  slot : ∀ t, memN o.dirty t = false → memN s.dirty t = false ∧ nth o.slots t = nth s.slots t
  bl : s.mem.boxes.length ≤ o.mem.boxes.length
  box : ∀ b l, nth s.mem.boxes b = some l → ∃ l', nth o.mem.boxes b = some l' ∧ l'.length = l.length ∧ ∀ j, memP o.bd b j = false → memP s.bd b j = false ∧ nth l' j = nth l j
  sd : o.sd = false → s.sd = false ∧ o.mem.stgs = s.mem.stgs

theorem Keep.refl (s : St) : Keep s s := ⟨rfl, fun _ h => ⟨h, rfl⟩, Nat.le_refl _, fun _ l h => ⟨l, h, rfl, fun _ k => ⟨k, rfl⟩⟩, fun h => ⟨h, rfl⟩⟩
theorem Keep.trans {a b c : St} (h : Keep a b) (k : Keep b c) : Keep a c where
  sl := k.sl.trans h.sl
  slot := fun t ht => let ⟨h1, h2⟩ := k.slot t ht; let ⟨h3, h4⟩ := h.slot t h1; ⟨h3, h2.trans h4⟩
  bl := Nat.le_trans h.bl k.bl
  box := fun b l hl => by
    obtain ⟨l1, h1, h2, h3⟩ := h.box b l hl
    obtain ⟨l2, h4, h5, h6⟩ := k.box b l1 h1
    exact ⟨l2, h4, h5.trans h2, fun j hj => let ⟨q1, q2⟩ := h6 j hj; let ⟨q3, q4⟩ := h3 j q1; ⟨q3, q2.trans q4⟩⟩
  sd := fun hs => let ⟨h1, h2⟩ := k.sd hs; let ⟨h3, h4⟩ := h.sd h1; ⟨h3, h2.trans h4⟩

theorem Keep.put (s : St) (d : Option Nat) (v : V) : Keep s (put s d v) := by
  cases d with
  | none => exact Keep.refl s
  | some d =>
    refine ⟨by simp [Sx.put, setN_eq], fun t ht => ?_, Nat.le_refl _, fun _ l h => ⟨l, h, rfl, fun _ k => ⟨k, rfl⟩⟩, fun h => ⟨h, rfl⟩⟩
    simp only [Sx.put, memN_addN, Bool.or_eq_false_iff] at ht
    refine ⟨ht.2, ?_⟩
    have : d ≠ t := by intro e; subst e; simp at ht
    simp only [Sx.put, setN_eq, nth_eq]
    rw [List.getElem?_set_ne this]

theorem putN_length : ∀ {vs l r : List A} {o : Nat}, putN l o vs = some r → r.length = l.length
  | [], l, r, o, h => by simp [putN] at h; simp [h]
  | v :: vs, l, r, o, h => by
    simp only [putN] at h
    split at h
    · have := putN_length h; simpa [setN_eq] using this
    · simp at h
theorem putN_nth : ∀ {vs l r : List A} {o : Nat}, putN l o vs = some r → ∀ j, ¬ (o ≤ j ∧ j < o + vs.length) → nth r j = nth l j
  | [], l, r, o, h, j, _ => by simp [putN] at h; simp [h]
  | v :: vs, l, r, o, h, j, hj => by
    simp only [putN] at h
    split at h
    · simp only [List.length_cons] at hj
      have := putN_nth h j (by omega)
      rw [this, nth_eq, nth_eq, setN_eq, List.getElem?_set_ne (by omega)]
    · simp at h

/-- The memory of an operation's result. -/
structure KeepR (s : St) (r : Res) : Prop where
  bl : s.mem.boxes.length ≤ r.m.boxes.length
  box : ∀ b l, nth s.mem.boxes b = some l → ∃ l', nth r.m.boxes b = some l' ∧ l'.length = l.length ∧ ∀ j, memP r.bd b j = false → memP s.bd b j = false ∧ nth l' j = nth l j
  sd : r.sd = false → s.sd = false ∧ r.m.stgs = s.mem.stgs
theorem KeepR.still {s : St} {r : Res} (h1 : r.m = s.mem) (h2 : r.bd = s.bd) (h3 : r.sd = s.sd) : KeepR s r := by
  refine ⟨by rw [h1]; exact Nat.le_refl _, fun b l h => ⟨l, by rw [h1]; exact h, rfl, fun j k => ⟨by rw [← h2]; exact k, rfl⟩⟩, fun h => ⟨by rw [← h3]; exact h, by rw [h1]⟩⟩
theorem KeepR.keep {s : St} {r : Res} (h : KeepR s r) (d : Option Nat) : Keep s (putRes s d r) :=
  Keep.trans (b := { s with mem := r.m, bd := r.bd, sd := r.sd }) ⟨rfl, fun _ h => ⟨h, rfl⟩, h.bl, h.box, h.sd⟩ (Keep.put _ _ _)
theorem newBox_keep (s : St) (l : List A) : KeepR s (newBox s l) := by
  refine ⟨by simp [newBox], fun b l' h => ⟨l', nth_append_left h, rfl, fun j k => ⟨k, rfl⟩⟩, fun h => ⟨h, rfl⟩⟩

theorem evOp_keep_still {E : Env} {s : St} {op : Op} {r : Res} (h : evOp E s op = some r) (hst : stillOp op = true) : r.m = s.mem ∧ r.bd = s.bd ∧ r.sd = s.sd := by
  have hp : ∀ {a : A} {r : Res}, pureR s a = some r → r.m = s.mem ∧ r.bd = s.bd ∧ r.sd = s.sd := by
    intro a r h; simp only [pureR, Option.some.injEq] at h; subst h; exact ⟨rfl, rfl, rfl⟩
  have hv : ∀ {a : V} {r : Res}, valR s a = some r → r.m = s.mem ∧ r.bd = s.bd ∧ r.sd = s.sd := by
    intro a r h; simp only [valR, Option.some.injEq] at h; subst h; exact ⟨rfl, rfl, rfl⟩
  unfold evOp at h
  repeat' split at h
  all_goals first
    | exact hp h
    | exact hv h
    | (simp at h; done)
    | (simp [stillOp] at hst; done)
    | (rw [Option.bind_eq_some_iff] at h; obtain ⟨z, _, h⟩ := h; exact hp h)
    | (simp only [Option.some.injEq] at h; subst h; exact ⟨rfl, rfl, rfl⟩)
    | skip
  · unfold indexA at h
    repeat' split at h
    all_goals first
      | exact hv h
      | (simp at h; done)
      | (simp only [Option.some.injEq] at h; subst h; exact ⟨rfl, rfl, rfl⟩)
theorem evOp_keep {E : Env} {s : St} {op : Op} {r : Res} (h : evOp E s op = some r) : KeepR s r := by
  by_cases hst : stillOp op = true
  · obtain ⟨h1, h2, h3⟩ := evOp_keep_still h hst
    exact .still h1 h2 h3
  · cases op <;> simp only [stillOp, not_true_eq_false] at hst <;> simp only [evOp] at h
    case alloc t =>
      rw [Option.map_eq_some_iff] at h
      obtain ⟨z, _, rfl⟩ := h
      exact newBox_keep s z
    case box t y =>
      rw [Option.map_eq_some_iff] at h
      obtain ⟨z, _, rfl⟩ := h
      exact newBox_keep s z
    case store t p y =>
      split at h
      · rename_i pa l _ _
        unfold storeA at h
        split at h
        · simp at h
        · rename_i n hn
          split at h
          · simp at h
          · rename_i hbeq
            simp only [Nat.beq_eq, len_eq] at hbeq
            split at h
            · rename_i b off _
              split at h
              · simp at h
              · rename_i c hcb
                split at h
                · simp at h
                · rename_i c' hput
                  simp only [Option.some.injEq] at h; subst h
                  refine ⟨by simp [setN_eq], fun b' l' hb' => ?_, fun h => ⟨h, rfl⟩⟩
                  by_cases e : b = b'
                  · subst e
                    have : l' = c := by rw [hcb] at hb'; simpa using hb'.symm
                    subst this
                    refine ⟨c', ?_, putN_length hput, fun j hj => ?_⟩
                    · rw [nth_eq, setN_eq, List.getElem?_set_self (nth_lt hcb)]
                    · rw [memP_addBD, Bool.or_eq_false_iff] at hj
                      refine ⟨hj.1, putN_nth hput j ?_⟩
                      have := hj.2
                      simp at this
                      rw [← hbeq]; omega
                  · refine ⟨l', ?_, rfl, fun j hj => ?_⟩
                    · rw [nth_eq, setN_eq, List.getElem?_set_ne e, ← nth_eq]; exact hb'
                    · rw [memP_addBD, Bool.or_eq_false_iff] at hj
                      exact ⟨hj.1, rfl⟩
            · simp at h
      · simp at h

theorem builtinA_keep {s : St} {b : Builtin} {vs : List V} {r : Res} (h : builtinA s b vs = some r) : r.m = s.mem ∧ r.bd = s.bd ∧ r.sd = s.sd := by
  unfold builtinA at h
  repeat' split at h
  all_goals first
    | (simp only [pureR, Option.some.injEq] at h; subst h; exact ⟨rfl, rfl, rfl⟩)
    | (simp at h; done)

theorem setBoxes_keep : ∀ (us : List (Nat × List A)) (bx : List (List A)) (bd : List (Nat × Nat)) (bx' : List (List A)) (bd' : List (Nat × Nat)), setBoxes bx bd us = some (bx', bd') →
    bx'.length = bx.length ∧ ∀ b l, nth bx b = some l → ∃ l', nth bx' b = some l' ∧ l'.length = l.length ∧ ∀ j, memP bd' b j = false → memP bd b j = false ∧ nth l' j = nth l j
  | [], bx, bd, bx', bd', h => by
    simp only [setBoxes, Option.some.injEq, Prod.mk.injEq] at h
    obtain ⟨rfl, rfl⟩ := h
    exact ⟨rfl, fun b l h => ⟨l, h, rfl, fun j k => ⟨k, rfl⟩⟩⟩
  | (b, l) :: r, bx, bd, bx', bd', h => by
    simp only [setBoxes] at h
    split at h
    · rename_i c hc
      split at h
      · rename_i hbeq
        simp only [Nat.beq_eq, len_eq] at hbeq
        obtain ⟨h1, h2⟩ := setBoxes_keep r _ _ _ _ h
        refine ⟨by simpa [setN_eq] using h1, fun b' l' hb' => ?_⟩
        by_cases e : b = b'
        · subst e
          have : l' = c := by rw [hc] at hb'; simpa using hb'.symm
          subst this
          obtain ⟨l2, q1, q2, q3⟩ := h2 b l (by rw [nth_eq, setN_eq, List.getElem?_set_self (nth_lt hc)])
          refine ⟨l2, q1, q2.trans hbeq.symm, fun j hj => ?_⟩
          obtain ⟨q4, q5⟩ := q3 j hj
          rw [memP_addBD, Bool.or_eq_false_iff] at q4
          refine ⟨q4.1, ?_⟩
          have hj2 := q4.2
          simp [len_eq] at hj2
          rw [q5, nth_eq, nth_eq, List.getElem?_eq_none (by omega), List.getElem?_eq_none (by omega)]
        · obtain ⟨l2, q1, q2, q3⟩ := h2 b' l' (by rw [nth_eq, setN_eq, List.getElem?_set_ne e, ← nth_eq]; exact hb')
          refine ⟨l2, q1, q2, fun j hj => ?_⟩
          obtain ⟨q4, q5⟩ := q3 j hj
          rw [memP_addBD, Bool.or_eq_false_iff] at q4
          exact ⟨q4.1, q5⟩
      · simp at h
    · simp at h
theorem applyU_keep {s s' : St} {u : Upd} (h : applyU s u = some s') : Keep s s' := by
  unfold applyU at h
  split at h
  · rename_i bx bd hb
    simp only [Option.some.injEq] at h; subst h
    obtain ⟨h1, h2⟩ := setBoxes_keep _ _ _ _ _ hb
    refine ⟨rfl, fun _ h => ⟨h, rfl⟩, by simp [h1], h2, fun h => ?_⟩
    simp only [Bool.or_eq_false_iff, Bool.not_eq_false'] at h
    refine ⟨h.1, ?_⟩
    cases hu : u.news with
    | nil => simp
    | cons _ _ => rw [hu] at h; simp [isNil] at h
  · simp at h

abbrev AllK (s : St) (t : RT Out) : Prop := t.All (fun o => Keep s o.s)

theorem AllK.trans {a b : St} (h : Keep a b) {t : RT Out} (k : AllK b t) : AllK a t := k.mono fun _ q => h.trans q
theorem stop_keep (s : St) : AllK s (stopT s) := Keep.refl s
theorem chkT_keep {s : St} {c : Option Bool} {t : RT Out} (h : AllK s t) : AllK s (chkT c s t) := by
  cases c with
  | none => exact h
  | some b => exact ⟨h, Keep.refl s⟩

theorem stepT_keep {E : Env} {q : Bool} {s : St} {o : Oper} {k : St → RT Out} (hk : ∀ s', Keep s s' → AllK s' (k s')) : AllK s (stepT E q s o k) := by
  have step : ∀ s', Keep s s' → AllK s (k s') := fun s' h => (hk s' h).trans h
  unfold stepT
  repeat' split
  all_goals first
    | exact stop_keep s
    | (refine chkT_keep (step _ ?_); exact Keep.put _ _ _)
    | (refine chkT_keep (step _ ?_); exact Keep.trans (applyU_keep (by assumption)) (Keep.put _ _ _))
    | (refine chkT_keep (step _ ?_); exact (evOp_keep (by assumption)).keep _)
    | skip
  · refine chkT_keep (step _ ?_)
    obtain ⟨h1, h2, h3⟩ := builtinA_keep (by assumption)
    exact (KeepR.still h1 h2 h3).keep _

theorem guardT_keep {ops : List Oper} {s : St} {g : Option (Nat × Bool)} {run skip : St → RT Out} (h1 : ∀ s', Keep s s' → AllK s' (run s')) (h2 : ∀ s', Keep s s' → AllK s' (skip s')) : AllK s (guardT ops s g run skip) := by
  unfold guardT
  repeat' split
  all_goals first
    | exact stop_keep s
    | exact h1 s (Keep.refl s)
    | exact h2 s (Keep.refl s)
    | exact ⟨(h1 _ (Keep.put _ _ _)).trans (Keep.put _ _ _), (h2 _ (Keep.put _ _ _)).trans (Keep.put _ _ _)⟩
    | exact ⟨(h2 _ (Keep.put _ _ _)).trans (Keep.put _ _ _), (h1 _ (Keep.put _ _ _)).trans (Keep.put _ _ _)⟩

theorem evOps_keep {E : Env} {q : Bool} {ops : List Oper} : ∀ (l : List Oper) (s : St), AllK s (evOps E q ops l s)
  | [], s => Keep.refl s
  | _ :: l, _ => guardT_keep (fun _ _ => stepT_keep fun s'' _ => evOps_keep l s'') (fun _ _ => (evOps_keep l _).trans (Keep.put _ _ _))

end Go.Sx
