/-
  Soundness of the symbolic executor, part 8: two states made one. Conditions: none (lemmas).
-/
import Derived.Test.YtiflfdlglncjlaaS3Keep
set_option linter.unusedSimpArgs false
set_option linter.unusedVariables false
namespace Go.S3

/-- A state that was reached from the call's beginning (x0, w0). -/
structure RelH (x0 : Ctx) (w0 : World) (x : Ctx) (s : St) (a : Act) (w : World) : Prop where
  r : Rel x s a w
  e : Ext x0 x
  t : Step x0 w0 w
/-- The boxes and the slices of x are there in x'. -/
structure ExtM (x x' : Ctx) : Prop where
  M : ∀ b p, nth x.M b = some p → nth x'.M b = some p
  S : ∀ h s, nth x.S h = some s → ∃ s', nth x'.S h = some s' ∧ SLe s s'
theorem ExtM.refl (x : Ctx) : ExtM x x := ⟨fun _ _ h => h, fun _ s h => ⟨s, h, .refl s⟩⟩
theorem ExtM.trans {x y z : Ctx} (h : ExtM x y) (k : ExtM y z) : ExtM x z :=
  ⟨fun b p e => k.M b p (h.M b p e), fun i s e => let ⟨s1, e1, l1⟩ := h.S i s e; let ⟨s2, e2, l2⟩ := k.S i s1 e1; ⟨s2, e2, l1.trans l2⟩⟩
theorem Ext.extM {x x' : Ctx} (h : Ext x x') : ExtM x x' := ⟨h.M, h.S⟩

def QK (Q : Exit → Act → World → Prop) : K → Act → World → Prop
  | .normal, a, w => Q .normal a w
  | .exit i, a, w => Q (.exit i) a w
  | .ret, a, w => Q .ret a w
  | .stop, _, _ => False
/-- Whoever reaches this outcome is done. -/
def Hold (x0 : Ctx) (w0 : World) (x : Ctx) (Q : Exit → Act → World → Prop) (o : Out) : Prop :=
  ∀ x' a' w', RelH x0 w0 x' o.s a' w' → ExtM x x' → QK Q o.k a' w'

/-- x'' is x' with fewer boxes and slices, but with those of x, and the slices' versions are others. -/
structure Back (x x' x'' : Ctx) : Prop where
  a : ExtM x x'
  b : ExtM x x''
  S : ∀ h s s', nth x.S h = some s → nth x'.S h = some s' → ∃ s'', nth x''.S h = some s'' ∧ s'.ver ≤ s''.ver ∧ s''.blk = s'.blk ∧ s''.n = s'.n ∧ s''.w = s'.w ∧ s''.na = s'.na
  fz : x''.fz = x'.fz
  own : x''.own = x'.own
theorem Back.bare {x x' x'' : Ctx} (h : Back x x' x'') : x''.bare = x'.bare := by simp only [Ctx.bare, h.fz, h.own]

/-- What is said of a value in x' is said of it in x'' too, if x'' has the boxes and slices that the value names. -/
theorem RA.cut {x : Ctx} {a : A} {v0 : Value} (h : RA x a v0) : ∀ {x' x'' : Ctx} {v : Value}, Back x x' x'' → RA x' a v → RA x'' a v := by
  induction h with
  | bool x l b => intro x' x'' v _ k; cases k; exact .bool _ _ _
  | int x l k n h => intro x' x'' v _ k; cases k; exact .int _ _ _ _ h
  | str x s => intro x' x'' v _ k; cases k; exact .str _ _
  | loc x b o p h =>
    intro x' x'' v hb k
    cases k with
    | loc _ _ _ q hq =>
      have : q = p := by rw [hb.a.M b p h] at hq; simpa using hq.symm
      subst this
      exact .loc _ _ _ _ (hb.b.M b q h)
  | nilp x => intro x' x'' v _ k; cases k; exact .nilp _
  | nilsl x => intro x' x'' v _ k; cases k; exact .nilsl _
  | lst0 x r lit full nn l a cap h hf hn =>
    intro x' x'' v hb k
    exact k.plain (fun b o u e => by rw [hb.fz]; exact e) rfl
  | lst x r lit full nn l p o cap c h hf hcap hml hz hr ih =>
    intro x' x'' v hb k
    exact k.plain (fun b o u e => by rw [hb.fz]; exact e) rfl
  | tip x h ver s v hs hv hval hat =>
    intro x' x'' u hb k
    cases k with
    | tip _ _ _ s' _ hs' hv' hval' hat' =>
      obtain ⟨s'', e1, e2, e3, e4, e5, e6⟩ := hb.S h s s' hs hs'
      obtain ⟨s1, f1, f2⟩ := hb.a.S h s hs
      have : s1 = s' := by rw [hs'] at f1; simpa using f1.symm
      subst this
      refine .tip _ _ _ s'' _ e1 (by omega) (fun e => ?_) hat'
      have h1 := f2.ver
      rw [hval' (by omega)]
      simp only [tipVal, e3, e4, e6]
  | fp x l p o c hf hr ih =>
    intro x' x'' v hb k
    cases k with
    | fp _ _ p o c hf hr => exact .fp _ _ _ _ c (by rw [hb.fz]; exact hf) (by rw [hb.bare]; exact hr)
  | sp x h ver i o s v hs hv hval hat =>
    intro x' x'' u hb k
    cases k with
    | sp _ _ _ _ _ s' _ hs' hv' hval' hat' =>
      obtain ⟨s'', e1, e2, e3, e4, e5, e6⟩ := hb.S h s s' hs hs'
      obtain ⟨s1, f1, f2⟩ := hb.a.S h s hs
      have : s1 = s' := by rw [hs'] at f1; simpa using f1.symm
      subst this
      refine .sp _ _ _ _ _ s'' _ e1 (by omega) (fun e => ?_) hat'
      have h1 := f2.ver
      obtain ⟨p, cap, q1, q2, q3, q4⟩ := hval' (by omega)
      exact ⟨p, cap, by rw [e3]; exact q1, q2, by rw [e4]; exact q3, by rw [e5]; exact q4⟩
  | clo x f caps cs c hl hc hr ih =>
    intro x' x'' v hb k
    cases k with
    | clo _ _ _ cs' c' hl' hc' hr' => exact .clo _ _ _ _ c' hl' hc' (fun j a ha => ih j a ha hb (hr' j a ha))
  | raw x v h => intro x' x'' u _ k; cases k; exact .raw _ _ h
  | junk x v h => intro x' x'' u _ k; exact .junk _ _ k.atomic
theorem RL.cut {x x' x'' : Ctx} (hb : Back x x' x'') : ∀ {l : List A} {u v : List Value}, RL x l u → RL x' l v → RL x'' l v
  | [], [], [], _, _ => trivial
  | _ :: _, _ :: _, _ :: _, h, k => ⟨h.1.cut hb k.1, RL.cut hb h.2 k.2⟩
  | [], _ :: _, _, h, _ => h.elim
  | [], [], _ :: _, _, k => k.elim
  | _ :: _, [], _, h, _ => h.elim
  | _ :: _, _ :: _, [], _, k => k.elim
theorem RW.cut {x x' x'' : Ctx} (hb : Back x x' x'') {l : W} {u v : Value} (h : RW x l u) (k : RW x' l v) : RW x'' l v := by
  cases l with
  | one a => exact RA.cut h hb k
  | agg l => obtain ⟨C, _, h⟩ := h; obtain ⟨D, e, k⟩ := k; exact ⟨D, e, h.cut hb k⟩
  | junk => trivial
theorem RWs.cut {x x' x'' : Ctx} (hb : Back x x' x'') : ∀ {l : List W} {u v : List Value}, RWs x l u → RWs x' l v → RWs x'' l v
  | [], [], [], _, _ => trivial
  | _ :: _, _ :: _, _ :: _, h, k => ⟨RW.cut hb h.1 k.1, RWs.cut hb h.2 k.2⟩
  | [], _ :: _, _, h, _ => h.elim
  | [], [], _ :: _, _, k => k.elim
  | _ :: _, [], _, h, _ => h.elim
  | _ :: _, _ :: _, [], _, k => k.elim
theorem RV.cut {x x' x'' : Ctx} (hb : Back x x' x'') {l : V} {u v : Value} (h : RV x l u) (k : RV x' l v) : RV x'' l v := by
  cases l with
  | w a => exact RW.cut hb h k
  | tup l => obtain ⟨C, _, h⟩ := h; obtain ⟨D, e, k⟩ := k; exact ⟨D, e, h.cut hb k⟩

theorem firstN_nth {α : Type} {n : Nat} {l : List α} {b : Nat} (h : b < n) : nth (firstN n l) b = nth l b := by
  rw [firstN_eq, nth_eq, nth_eq, List.getElem?_take, if_pos h]
theorem firstN_some {α : Type} {n : Nat} {l : List α} {b : Nat} {a : α} (h : nth (firstN n l) b = some a) : b < n ∧ nth l b = some a := by
  have h1 := nth_lt h
  rw [firstN_eq] at h1
  rw [List.length_take] at h1
  have h2 : b < n := by omega
  exact ⟨h2, by rw [← firstN_nth h2]; exact h⟩
theorem firstN_len {α : Type} {n : Nat} {l : List α} (h : n ≤ l.length) : (firstN n l).length = n := by
  rw [firstN_eq, List.length_take]; omega

theorem memN_cons_false {t : Nat} {ts : List Nat} {i : Nat} (h : memN (t :: ts) i = false) : t ≠ i ∧ memN ts i = false := by
  simp only [memN, Bool.or_eq_false_iff] at h
  exact ⟨fun e => by subst e; simp at h, h.2⟩
theorem consO_some {α : Type} {a : α} {o : Option (List α)} {r : List α} (h : consO a o = some r) : ∃ l, o = some l ∧ r = a :: l := by
  cases o with
  | none => simp [consO] at h
  | some l => simp only [consO, Option.some.injEq] at h; exact ⟨l, rfl, h.symm⟩
theorem mSlots_shape {c : Bool} {tm : Nat → Nat → Nat → Option Nat} {nb : Nat} {nm : Nm} {mk : Nat} : ∀ {l y r : List V} {i : Nat}, mSlots c tm nb nm mk i y l = some r → r.length = l.length ∧ ∀ j, tbit mk (i + j) = false → nth r j = nth l j
  | [], y, r, i, h => by
    simp only [mSlots, Option.some.injEq] at h; subst h
    exact ⟨rfl, fun _ _ => rfl⟩
  | a :: l, [], r, i, h => by
    simp only [mSlots] at h
    split at h
    · obtain ⟨r', h1, rfl⟩ := consO_some h
      obtain ⟨q1, q2⟩ := mSlots_shape h1
      refine ⟨by simp [q1], fun j hj => ?_⟩
      cases j with
      | zero => rfl
      | succ j => exact q2 j (by rw [← hj]; congr 1; omega)
    · simp at h
  | a :: l, b :: y, r, i, h => by
    simp only [mSlots] at h
    split at h
    · obtain ⟨r', h1, rfl⟩ := consO_some h
      obtain ⟨q1, q2⟩ := mSlots_shape h1
      refine ⟨by simp [q1], fun j hj => ?_⟩
      cases j with
      | zero => rfl
      | succ j => exact q2 j (by rw [← hj]; congr 1; omega)
    · rename_i hm
      have fin : ∀ z, consO z (mSlots c tm nb nm mk (i + 1) y l) = some r → r.length = (a :: l).length ∧ ∀ j, tbit mk (i + j) = false → nth r j = nth (a :: l) j := by
        intro z hz
        obtain ⟨r', h1, rfl⟩ := consO_some hz
        obtain ⟨q1, q2⟩ := mSlots_shape h1
        refine ⟨by simp [q1], fun j hj => ?_⟩
        cases j with
        | zero => rw [Nat.add_zero, hm] at hj; simp at hj
        | succ j => exact q2 j (by rw [← hj]; congr 1; omega)
      split at h
      · exact fin _ h
      · split at h
        · exact fin _ h
        · simp at h
theorem mSlots_ok {nb : Nat} {nm : Nm} {tm : Nat → Nat → Nat → Option Nat} {c : Bool} {mk : Nat} {x x' : Ctx} (hx : Cut nb tm c x x') (u : Nat → Value) :
    ∀ (l y : List V) (i : Nat) (r : List V), mSlots c tm nb nm mk i y l = some r → (∀ j v, tbit mk (i + j) = true → (cond c (nth l j) (nth y j)) = some v → RV x v (u (i + j))) →
      ∀ j v, tbit mk (i + j) = true → nth r j = some v → RV x' v (u (i + j))
  | [], y, i, r, h, _, j, v, hj, hv => by
    simp only [mSlots, Option.some.injEq] at h; subst h
    simp [nth_nil] at hv
  | a :: l, [], i, r, h, hl, j, v, hj, hv => by
    simp only [mSlots] at h
    split at h
    · rename_i hm
      obtain ⟨r', h1, rfl⟩ := consO_some h
      cases j with
      | zero => rw [Nat.add_zero, hm] at hj; simp at hj
      | succ j =>
        have e : i + (j + 1) = i + 1 + j := by omega
        rw [e] at hj ⊢
        refine mSlots_ok hx u l [] (i + 1) r' h1 (fun j v hj hv => ?_) j v hj hv
        have := hl (j + 1) v (by rw [← hj]; congr 1; omega) (by cases c with | true => exact hv | false => exact hv)
        rwa [show i + (j + 1) = i + 1 + j by omega] at this
    · simp at h
  | a :: l, b :: y, i, r, h, hl, j, v, hj, hv => by
    simp only [mSlots] at h
    have rest : ∀ r', mSlots c tm nb nm mk (i + 1) y l = some r' → ∀ j v, tbit mk (i + (j + 1)) = true → nth r' j = some v → RV x' v (u (i + (j + 1))) := by
      intro r' h1 j v hj hv
      have e : i + (j + 1) = i + 1 + j := by omega
      rw [e] at hj ⊢
      refine mSlots_ok hx u l y (i + 1) r' h1 (fun j v hj hv => ?_) j v hj hv
      have := hl (j + 1) v (by rw [← hj]; congr 1; omega) hv
      rwa [show i + (j + 1) = i + 1 + j by omega] at this
    split at h
    · rename_i hm
      obtain ⟨r', h1, rfl⟩ := consO_some h
      cases j with
      | zero => rw [Nat.add_zero, hm] at hj; simp at hj
      | succ j => exact rest r' h1 j v hj hv
    · rename_i hm
      split at h
      · obtain ⟨r', h1, rfl⟩ := consO_some h
        cases j with
        | zero => simp only [nth, Option.some.injEq] at hv; subst hv; trivial
        | succ j => exact rest r' h1 j v hj hv
      · split at h
        · rename_i z hz
          obtain ⟨r', h1, rfl⟩ := consO_some h
          cases j with
          | zero =>
            simp only [nth, Option.some.injEq] at hv; subst hv
            refine mV_ok hx hz (hl 0 _ (by rw [Nat.add_zero]; exact hm) ?_)
            cases c <;> rfl
          | succ j => exact rest r' h1 j v hj hv
        · simp at h
theorem memP_cons_false {b o : Nat} {ts : List (Nat × Nat)} {c j : Nat} (h : memP ((b, o) :: ts) c j = false) : ¬ (b = c ∧ o = j) ∧ memP ts c j = false := by
  simp only [memP, Bool.or_eq_false_iff] at h
  exact ⟨fun e => by obtain ⟨rfl, rfl⟩ := e; simp at h, h.2⟩
theorem mBoxes_shape {c : Bool} {tm : Nat → Nat → Nat → Option Nat} {nb : Nat} {y : List (List A)} : ∀ {ts : List (Nat × Nat)} {l r : List (List A)}, mBoxes c tm nb y ts l = some r → r.length = l.length ∧
    ∀ b q, nth l b = some q → ∃ q', nth r b = some q' ∧ q'.length = q.length ∧ ∀ j, memP ts b j = false → nth q' j = nth q j
  | [], l, r, h => by
    simp only [mBoxes, Option.some.injEq] at h; subst h
    exact ⟨rfl, fun b q hq => ⟨q, hq, rfl, fun j _ => rfl⟩⟩
  | (b, o) :: ts, l, r, h => by
    simp only [mBoxes] at h
    split at h
    · obtain ⟨h1, h2⟩ := mBoxes_shape h
      refine ⟨h1, fun b' q hq => ?_⟩
      obtain ⟨q', e1, e2, e3⟩ := h2 b' q hq
      exact ⟨q', e1, e2, fun j hj => e3 j (memP_cons_false hj).2⟩
    · split at h
      · rename_i q0 q1 hq0 hq1
        split at h
        · rename_i a a' ha ha'
          split at h
          · rename_i z hz
            obtain ⟨h1, h2⟩ := mBoxes_shape h
            refine ⟨by simpa [setN_eq] using h1, fun b' q hq => ?_⟩
            by_cases e : b = b'
            · subst e
              have : q = q0 := by rw [hq0] at hq; simpa using hq.symm
              subst this
              obtain ⟨q', e1, e2, e3⟩ := h2 b (setN q o z) (nth_set_self hq0)
              refine ⟨q', e1, by simpa [setN_eq] using e2, fun j hj => ?_⟩
              obtain ⟨k1, k2⟩ := memP_cons_false hj
              rw [e3 j k2]
              exact nth_set_ne (fun e => k1 ⟨rfl, e⟩)
            · obtain ⟨q', e1, e2, e3⟩ := h2 b' q (by rw [nth_set_ne e]; exact hq)
              exact ⟨q', e1, e2, fun j hj => e3 j (memP_cons_false hj).2⟩
          · simp at h
        · simp at h
      · simp at h
theorem mBoxes_ok {nb : Nat} {tm : Nat → Nat → Nat → Option Nat} {c : Bool} {x x' : Ctx} (hx : Cut nb tm c x x') {y : List (List A)} (u : Nat → Nat → Value) :
    ∀ (ts : List (Nat × Nat)) (l r : List (List A)), mBoxes c tm nb y ts l = some r → (∀ b q j a, b < nb → memP ts b j = true → cond c (nth l b) (nth y b) = some q → nth q j = some a → RA x a (u b j)) →
      ∀ b q j a, b < nb → memP ts b j = true → nth r b = some q → nth q j = some a → RA x' a (u b j)
  | [], l, r, h, _, b, q, j, a, _, hm, _, _ => by simp [memP] at hm
  | (b, o) :: ts, l, r, h, hl, b', q, j, a, hb', hm, hq, ha => by
    simp only [mBoxes] at h
    split at h
    · rename_i hsk
      refine mBoxes_ok hx u ts l r h (fun b q j a h1 h2 h3 h4 => hl b q j a h1 (by simp [memP, h2]) h3 h4) b' q j a hb' ?_ hq ha
      simp only [memP, Bool.or_eq_true, Bool.and_eq_true, Nat.beq_eq] at hm
      rcases hm with ⟨rfl, rfl⟩ | hm
      · simp only [Bool.or_eq_true, Bool.not_eq_true'] at hsk
        rcases hsk with h1 | h1
        · have : Nat.blt b nb = true := by rw [Nat.blt_eq]; exact hb'
          rw [this] at h1; simp at h1
        · exact h1
      · exact hm
    · rename_i hsk
      simp only [Bool.or_eq_false_iff, Bool.not_eq_false'] at hsk
      obtain ⟨hlt, hno⟩ := hsk
      split at h
      · rename_i q0 q1 hq0 hq1
        split at h
        · rename_i a0 a1 ha0 ha1
          split at h
          · rename_i z hz
            by_cases hm2 : memP ts b' j = true
            · refine mBoxes_ok hx u ts _ r h (fun b2 q2 j2 a2 h1 h2 h3 h4 => ?_) b' q j a hb' hm2 hq ha
              have hne : ¬ (b = b2 ∧ o = j2) := fun e => by obtain ⟨rfl, rfl⟩ := e; rw [hno] at h2; simp at h2
              cases c with
              | false => exact hl b2 q2 j2 a2 h1 (by simp [memP, h2]) h3 h4
              | true =>
                have h3 : nth (setN l b (setN q0 o z)) b2 = some q2 := h3
                by_cases e : b = b2
                · subst e
                  rw [nth_set_self hq0] at h3
                  simp only [Option.some.injEq] at h3; subst h3
                  rw [nth_set_ne (fun e => hne ⟨rfl, e⟩)] at h4
                  exact hl b q0 j2 a2 h1 (by simp [memP, h2]) hq0 h4
                · rw [nth_set_ne e] at h3
                  exact hl b2 q2 j2 a2 h1 (by simp [memP, h2]) h3 h4
            · have hm2' : memP ts b' j = false := by simpa using hm2
              have hbo : b = b' ∧ o = j := by
                simp only [memP, hm2', Bool.or_false, Bool.and_eq_true, Nat.beq_eq] at hm; exact hm
              obtain ⟨rfl, rfl⟩ := hbo
              obtain ⟨q', e1, e2, e3⟩ := (mBoxes_shape h).2 b (setN q0 o z) (nth_set_self hq0)
              have : q' = q := by rw [hq] at e1; simpa using e1.symm
              subst this
              rw [e3 o hm2', nth_set_self ha0] at ha
              simp only [Option.some.injEq] at ha; subst ha
              refine mA_ok hx hz ?_
              cases c with
              | false => exact hl b q1 o a1 hb' (by simp [memP]) hq1 ha1
              | true => exact hl b q0 o a0 hb' (by simp [memP]) hq0 ha0
          · simp at h
        · simp at h
      · simp at h

/-- g tells of the slice gb. -/
structure Rep (gb g : Stg) : Prop where
  rl : (⟨g.r, g.l⟩ : (r : R) × List r.den) = ⟨gb.r, gb.l⟩
  T : g.T = gb.T
  ver : gb.ver ≤ g.ver
  fzn : g.fzn = false → gb.fzn = false
  ffz : g.ffz = true → gb.ffz = true
  ub : 0 < g.ub → 0 < gb.ub ∧ gb.ub ≤ g.ub
theorem Rep.refl (g : Stg) : Rep g g := ⟨rfl, rfl, Nat.le_refl _, fun h => h, fun h => h, fun h => ⟨h, Nat.le_refl _⟩⟩
theorem StgOk.rep {x : Ctx} {gb g : Stg} {s : SI} {w : World} (h : StgOk x gb s w) (hr : Rep gb g) : StgOk x g { s with ver := g.ver } w := by
  obtain ⟨r, T, l, ver, fzn, ffz, lit, ub⟩ := g
  obtain ⟨r', T', l', ver', fzn', ffz', lit', ub'⟩ := gb
  obtain ⟨h1, h2, h3, h4, h5, h6⟩ := hr
  simp only at h1 h2 h3 h4 h5 h6
  cases h1
  subst h2
  exact ⟨rfl, h.n, h.wd, h.nil, h.row, fun e => h.fzn (h4 e), fun e => h.ffz (h5 e), fun e => Nat.lt_of_lt_of_le (h.ub (h6 e).1) (h6 e).2⟩
theorem mStg_rep {c : Bool} {a b g : Stg} (h : mStg c a b = some g) : Rep (cond c a b) g := by
  unfold mStg at h
  split at h
  · rename_i e he hT
    simp only [Nat.beq_eq] at hT
    simp only [Option.some.injEq] at h; subst h
    have hver : (cond c a b).ver ≤ (match Nat.beq a.ver b.ver with | true => a.ver | false => Nat.max a.ver b.ver + 1) := by
      split
      · rename_i hb
        simp only [Nat.beq_eq] at hb
        cases c
        · exact Nat.le_of_eq hb.symm
        · exact Nat.le_refl _
      · have h1 : a.ver ≤ Nat.max a.ver b.ver := Nat.le_max_left _ _
        have h2 : b.ver ≤ Nat.max a.ver b.ver := Nat.le_max_right _ _
        cases c
        · exact Nat.le_succ_of_le h2
        · exact Nat.le_succ_of_le h1
    have hub : ∀ m n : Nat, 0 < (match Nat.blt 0 m && Nat.blt 0 n with | true => (match Nat.ble m n with | true => n | false => m) | false => 0) → (0 < m ∧ m ≤ (match Nat.blt 0 m && Nat.blt 0 n with | true => (match Nat.ble m n with | true => n | false => m) | false => 0)) ∧ (0 < n ∧ n ≤ (match Nat.blt 0 m && Nat.blt 0 n with | true => (match Nat.ble m n with | true => n | false => m) | false => 0)) := by
      intro m n h
      split at h
      · rename_i hb
        simp only [Bool.and_eq_true, Nat.blt_eq] at hb
        split
        · rename_i hle
          simp only [Nat.ble_eq] at hle
          exact ⟨⟨hb.1, hle⟩, hb.2, Nat.le_refl _⟩
        · rename_i hle
          rw [Bool.eq_false_iff, Ne, Nat.ble_eq] at hle
          exact ⟨⟨hb.1, Nat.le_refl _⟩, hb.2, by omega⟩
      · omega
    obtain ⟨ar, aT, al, av, af, aff, alit, aub⟩ := a
    obtain ⟨br, bT, bl, bv, bf, bff, blit, bub⟩ := b
    cases e
    simp only at hT
    subst hT
    cases c with
    | true => exact ⟨rfl, rfl, hver, fun e => by simp at e; exact e.1, fun e => by simp at e; exact e.1, fun e => (hub _ _ e).1⟩
    | false => exact ⟨rfl, rfl, hver, fun e => by simp at e; exact e.2, fun e => by simp at e; exact e.2, fun e => (hub _ _ e).2⟩
  · simp at h
theorem mStgs_shape {c : Bool} {y : List Stg} : ∀ {ts : List Nat} {l r : List Stg}, mStgs c y ts l = some r → r.length = l.length ∧ ∀ i, memN ts i = false → nth r i = nth l i
  | [], l, r, h => by
    simp only [mStgs, Option.some.injEq] at h; subst h
    exact ⟨rfl, fun _ _ => rfl⟩
  | t :: ts, l, r, h => by
    simp only [mStgs] at h
    split at h
    · obtain ⟨h1, h2⟩ := mStgs_shape h
      exact ⟨h1, fun i hi => h2 i (memN_cons_false hi).2⟩
    · split at h
      · split at h
        · obtain ⟨h1, h2⟩ := mStgs_shape h
          refine ⟨by simpa [setN_eq] using h1, fun i hi => ?_⟩
          obtain ⟨q1, q2⟩ := memN_cons_false hi
          rw [h2 i q2, nth_set_ne q1]
        · simp at h
      · obtain ⟨h1, h2⟩ := mStgs_shape h
        exact ⟨h1, fun i hi => h2 i (memN_cons_false hi).2⟩
theorem mStgs_rep {c : Bool} {y : List Stg} : ∀ {ts : List Nat} {l r : List Stg}, y.length = l.length → mStgs c y ts l = some r → ∀ h g gb, memN ts h = true → nth r h = some g → cond c (nth l h) (nth y h) = some gb → Rep gb g
  | [], l, r, _, h, i, g, gb, hm, _, _ => by simp [memN] at hm
  | t :: ts, l, r, hyl, h, i, g, gb, hm, hg, hgb => by
    simp only [mStgs] at h
    split at h
    · rename_i hmm
      refine mStgs_rep hyl h i g gb ?_ hg hgb
      simp only [memN, Bool.or_eq_true, Nat.beq_eq] at hm
      rcases hm with rfl | hm
      · exact hmm
      · exact hm
    · rename_i hmm
      split at h
      · rename_i a b ha hb
        split at h
        · rename_i z hz
          by_cases hm2 : memN ts i = true
          · have hne : t ≠ i := fun e => by subst e; rw [hmm] at hm2; simp at hm2
            exact mStgs_rep (by simpa [setN_eq] using hyl) h i g gb hm2 hg (by rw [nth_set_ne hne]; exact hgb)
          · have hm2' : memN ts i = false := by simpa using hm2
            have : t = i := by
              simp only [memN, hm2', Bool.or_false, Nat.beq_eq] at hm; exact hm
            subst this
            rw [(mStgs_shape h).2 t hm2', nth_set_self ha] at hg
            simp only [Option.some.injEq] at hg; subst hg
            have := mStg_rep hz
            cases c
            · have : gb = b := by simp only [cond_false, hb, Option.some.injEq] at hgb; exact hgb.symm
              subst this; exact mStg_rep hz
            · have : gb = a := by simp only [cond_true, ha, Option.some.injEq] at hgb; exact hgb.symm
              subst this; exact mStg_rep hz
        · simp at h
      · rename_i hno
        by_cases hm2 : memN ts i = true
        · exact mStgs_rep hyl h i g gb hm2 hg hgb
        · have hm2' : memN ts i = false := by simpa using hm2
          have : t = i := by
            simp only [memN, hm2', Bool.or_false, Nat.beq_eq] at hm; exact hm
          subst this
          exfalso
          have hlt : t < l.length := by
            cases c
            · have := nth_lt (show nth y t = some gb from hgb); omega
            · exact nth_lt (show nth l t = some gb from hgb)
          obtain ⟨p, hp⟩ := nth_ex hlt
          obtain ⟨q, hq⟩ := nth_ex (l := y) (n := t) (by omega)
          exact hno p q hp hq

/-- What the merged state is made of. -/
theorem mergeS_some {c : Bool} {nb ns : Nat} {nm : Nm} {y1 y2 m : St} (h : mergeS c nb ns nm y1 y2 = some m) :
    mStgs c (firstN ns y2.mem.stgs) (joinN y1.sd y2.sd) (firstN ns y1.mem.stgs) = some m.mem.stgs ∧
    mSlots c (tipM y1.mem.stgs y2.mem.stgs m.mem.stgs) nb nm (Nat.lor y1.dirty y2.dirty) 0 y2.slots y1.slots = some m.slots ∧
    mBoxes c (tipM y1.mem.stgs y2.mem.stgs m.mem.stgs) nb y2.mem.boxes (joinP y1.bd y2.bd) (firstN nb y1.mem.boxes) = some m.mem.boxes ∧
    m.dirty = Nat.lor y1.dirty y2.dirty ∧ m.bd = joinP y1.bd y2.bd ∧ m.sd = joinN y1.sd y2.sd := by
  unfold mergeS at h
  split at h
  · simp at h
  · rename_i st hst
    split at h
    · simp at h
    · rename_i sl hsl
      split at h
      · simp at h
      · rename_i bx hbx
        simp only [Option.some.injEq] at h
        subst h
        exact ⟨hst, hsl, hbx, rfl, rfl, rfl⟩

theorem mergeS_keep {s : St} (hs : s.dirty = 0 ∧ s.bd = [] ∧ s.sd = []) {nm : Nm} {c : Bool} {y1 y2 m : St}
    (k1 : Keep s y1) (k2 : Keep s y2) (hm : mergeS c (len s.mem.boxes) (len s.mem.stgs) nm y1 y2 = some m) : Keep s m := by
  obtain ⟨h1, h2, h3, h4, h5, h6⟩ := mergeS_some hm
  rw [len_eq] at h1 h2 h3
  obtain ⟨q1, q2⟩ := mSlots_shape h2
  obtain ⟨q3, q4⟩ := mBoxes_shape h3
  obtain ⟨q5, q6⟩ := mStgs_shape h1
  refine ⟨q1.trans k1.sl, fun t ht => ?_, by rw [q3, firstN_len k1.bl]; exact Nat.le_refl _, fun b l hl => ?_, by rw [q5, firstN_len k1.gl]; exact Nat.le_refl _, fun i g hg => ?_⟩
  · rw [h4] at ht
    refine ⟨by rw [hs.1]; exact tbit_zero t, ?_⟩
    have ht' := ht
    rw [tbit_lor, Bool.or_eq_false_iff] at ht'
    rw [q2 t (by rw [Nat.zero_add]; exact ht), (k1.slot t ht'.1).2]
  · obtain ⟨l1, e1, e2, e3⟩ := k1.box b l hl
    have hb := nth_lt hl
    obtain ⟨q', f1, f2, f3⟩ := q4 b l1 (by rw [firstN_nth hb]; exact e1)
    refine ⟨q', f1, f2.trans e2, fun j hj => ⟨by rw [hs.2.1]; rfl, ?_⟩⟩
    rw [h5] at hj
    have hj' := hj
    rw [memP_joinP, Bool.or_eq_false_iff] at hj'
    rw [f3 j hj, (e3 j hj'.1).2]
  · obtain ⟨g1, e1, e2, e3⟩ := k1.stg i g hg
    obtain ⟨g2, e4, e5, e6⟩ := k2.stg i g hg
    have hi := nth_lt hg
    obtain ⟨g', hg'⟩ := nth_ex (l := m.mem.stgs) (n := i) (by rw [q5, firstN_len k1.gl]; exact hi)
    refine ⟨g', hg', ?_, fun hd => ⟨by rw [hs.2.2]; rfl, ?_⟩⟩
    · by_cases hd : memN (joinN y1.sd y2.sd) i = true
      · have hyl : (firstN s.mem.stgs.length y2.mem.stgs).length = (firstN s.mem.stgs.length y1.mem.stgs).length := by rw [firstN_len k1.gl, firstN_len k2.gl]
        cases c
        · exact Nat.le_trans e5 (mStgs_rep hyl h1 i g' g2 hd hg' (by show nth _ _ = _; rw [firstN_nth hi]; exact e4)).ver
        · exact Nat.le_trans e2 (mStgs_rep hyl h1 i g' g1 hd hg' (by show nth _ _ = _; rw [firstN_nth hi]; exact e1)).ver
      · have hd' : memN (joinN y1.sd y2.sd) i = false := by simpa using hd
        rw [q6 i hd', firstN_nth hi, e1] at hg'
        simp only [Option.some.injEq] at hg'
        rw [← hg']; exact e2
    · rw [h6] at hd
      have hd' := hd
      rw [memN_joinN, Bool.or_eq_false_iff] at hd'
      rw [q6 i hd, firstN_nth hi, e1] at hg'
      simp only [Option.some.injEq] at hg'
      rw [← hg']; exact (e3 hd'.1).2

/-- The slices of a merged state: those of the state that was reached, with other versions. -/
def retag : List Stg → List SI → List SI
  | g :: gs, s :: ss => { s with ver := g.ver } :: retag gs ss
  | _, _ => []
theorem retag_len : ∀ {gs : List Stg} {ss : List SI}, gs.length ≤ ss.length → (retag gs ss).length = gs.length
  | [], _, _ => by simp [retag]
  | _ :: _, [], h => by simp at h
  | _ :: gs, _ :: ss, h => by simp only [retag, List.length_cons]; rw [retag_len (by simpa using h)]
theorem retag_nth : ∀ {gs : List Stg} {ss : List SI} {i : Nat} {s' : SI}, nth (retag gs ss) i = some s' → ∃ g s, nth gs i = some g ∧ nth ss i = some s ∧ s' = { s with ver := g.ver }
  | [], _, i, s', h => by simp [retag, nth_nil] at h
  | _ :: _, [], i, s', h => by simp [retag, nth_nil] at h
  | g :: gs, s :: ss, 0, s', h => by simp only [retag, nth, Option.some.injEq] at h; exact ⟨g, s, rfl, rfl, h.symm⟩
  | _ :: gs, _ :: ss, i + 1, s', h => by simp only [retag, nth] at h; exact retag_nth (gs := gs) (ss := ss) h
theorem retag_of : ∀ {gs : List Stg} {ss : List SI} {i : Nat} {g : Stg} {s : SI}, nth gs i = some g → nth ss i = some s → nth (retag gs ss) i = some { s with ver := g.ver }
  | [], _, i, _, _, h, _ => by simp [nth_nil] at h
  | _ :: _, [], i, _, _, _, h => by simp [nth_nil] at h
  | g :: gs, s :: ss, 0, _, _, h, h' => by simp only [nth, Option.some.injEq] at h h'; subst h; subst h'; rfl
  | _ :: gs, _ :: ss, i + 1, _, _, h, h' => retag_of (gs := gs) (ss := ss) h h'

set_option maxHeartbeats 1000000 in
theorem mergeS_ok {x0 x : Ctx} {w0 w : World} {s : St} {a : Act} (hp : RelH x0 w0 x s a w) {nm : Nm} {c : Bool} {y1 y2 m : St}
    (k1 : Keep s y1) (k2 : Keep s y2) (hm : mergeS c (len s.mem.boxes) (len s.mem.stgs) nm y1 y2 = some m) :
    ∀ x' a' w', RelH x0 w0 x' (cond c y1 y2) a' w' → ExtM x x' → ∃ x'', RelH x0 w0 x'' m a' w' ∧ ExtM x x'' := by
  obtain ⟨h1, h2, h3, h4, h5, h6⟩ := mergeS_some hm
  rw [len_eq] at h1 h2 h3
  obtain ⟨q1, q2⟩ := mSlots_shape h2
  obtain ⟨q3, q4⟩ := mBoxes_shape h3
  obtain ⟨q5, q6⟩ := mStgs_shape h1
  have q3' : m.mem.boxes.length = s.mem.boxes.length := by rw [q3, firstN_len k1.bl]
  have q5' : m.mem.stgs.length = s.mem.stgs.length := by rw [q5, firstN_len k1.gl]
  intro x' a' w' hr hxx
  have hR := hr.r
  have hM := hR.m
  generalize hy : cond c y1 y2 = yc at *
  have kc : Keep s yc := by rw [← hy]; cases c; exact k2; exact k1
  have hml := hM.ml
  have hsl := hM.sl
  have hpm := hp.r.m
  -- the slices
  have hrep : ∀ i g, nth m.mem.stgs i = some g → ∃ gb, nth yc.mem.stgs i = some gb ∧ Rep gb g := by
    intro i g hg
    have hi : i < s.mem.stgs.length := by have := nth_lt hg; omega
    obtain ⟨gb0, hgb0⟩ := nth_ex hi
    obtain ⟨g1, e1, e2, e3⟩ := k1.stg i gb0 hgb0
    obtain ⟨g2, e4, e5, e6⟩ := k2.stg i gb0 hgb0
    by_cases hd : memN (joinN y1.sd y2.sd) i = true
    · have hyl : (firstN s.mem.stgs.length y2.mem.stgs).length = (firstN s.mem.stgs.length y1.mem.stgs).length := by rw [firstN_len k1.gl, firstN_len k2.gl]
      rw [← hy]
      cases c
      · exact ⟨g2, e4, mStgs_rep hyl h1 i g g2 hd hg (by show nth _ _ = _; rw [firstN_nth hi]; exact e4)⟩
      · exact ⟨g1, e1, mStgs_rep hyl h1 i g g1 hd hg (by show nth _ _ = _; rw [firstN_nth hi]; exact e1)⟩
    · have hd' : memN (joinN y1.sd y2.sd) i = false := by simpa using hd
      rw [q6 i hd', firstN_nth hi, e1] at hg
      simp only [Option.some.injEq] at hg
      rw [memN_joinN, Bool.or_eq_false_iff] at hd'
      have : g2 = g1 := by rw [(e3 hd'.1).2, (e6 hd'.2).2]
      subst this; subst hg
      rw [← hy]
      cases c
      · exact ⟨g2, e4, .refl _⟩
      · exact ⟨g2, e1, .refl _⟩
  let x'' : Ctx := { x' with M := firstN s.mem.boxes.length x'.M, S := retag m.mem.stgs x'.S }
  have hSl : m.mem.stgs.length ≤ x'.S.length := by rw [hsl, q5']; exact kc.gl
  have hMl : s.mem.boxes.length ≤ x'.M.length := by rw [hml]; exact kc.bl
  -- its slices are the others, with other versions
  have hS2 : ∀ i s'', nth x''.S i = some s'' → ∃ g gb s', nth m.mem.stgs i = some g ∧ nth yc.mem.stgs i = some gb ∧ nth x'.S i = some s' ∧ Rep gb g ∧ s'' = { s' with ver := g.ver } ∧ StgOk x' gb s' w' := by
    intro i s'' hs''
    obtain ⟨g, s', e1, e2, e3⟩ := retag_nth hs''
    obtain ⟨gb, e4, e5⟩ := hrep i g e1
    exact ⟨g, gb, s', e1, e4, e2, e5, e3, hM.stg i gb s' e4 e2⟩
  have hback : Back x x' x'' := by
    refine ⟨hxx, ⟨fun b p h => ?_, fun i si hsi => ?_⟩, fun i si s' hsi hs' => ?_, rfl, rfl⟩
    · have hb : b < s.mem.boxes.length := by have h1 := nth_lt h; have h2 := hpm.ml; omega
      show nth (firstN s.mem.boxes.length x'.M) b = some p
      rw [firstN_nth hb]; exact hxx.M b p h
    · obtain ⟨s', e1, e2⟩ := hxx.S i si hsi
      have hi : i < m.mem.stgs.length := by have h1 := nth_lt hsi; have h2 := hpm.sl; omega
      obtain ⟨g, hg⟩ := nth_ex hi
      obtain ⟨gb, e3, e4⟩ := hrep i g hg
      have hok := hM.stg i gb s' e3 e1
      refine ⟨{ s' with ver := g.ver }, retag_of hg e1, ⟨?_, fun e => ?_⟩⟩
      · have h1 := e2.ver; have h2 := e4.ver; have h3 := hok.ver; show si.ver ≤ g.ver; omega
      · have e : g.ver = si.ver := e
        have h1 := e2.ver; have h2 := e4.ver; have h3 := hok.ver
        exact e2.same (by omega)
    · have hi : i < m.mem.stgs.length := by have h1 := nth_lt hsi; have h2 := hpm.sl; omega
      obtain ⟨g, hg⟩ := nth_ex hi
      obtain ⟨gb, e3, e4⟩ := hrep i g hg
      have hok := hM.stg i gb s' e3 hs'
      exact ⟨{ s' with ver := g.ver }, retag_of hg hs', by have h2 := e4.ver; have h3 := hok.ver; show s'.ver ≤ g.ver; omega, rfl, rfl, rfl, rfl⟩
  have hcut : Cut s.mem.boxes.length (tipM y1.mem.stgs y2.mem.stgs m.mem.stgs) c x' x'' := by
    refine ⟨fun b hb => firstN_nth hb, fun i v v' mv htm val hv => ?_, fun _ _ _ h => h⟩
    unfold tipM at htm
    split at htm
    · rename_i ga gb' gm ha hb' hgm
      split at htm
      · rename_i hvv
        simp only [Bool.and_eq_true, Nat.beq_eq] at hvv
        obtain ⟨rfl, rfl⟩ := hvv
        simp only [Option.some.injEq] at htm; subst htm
        obtain ⟨gb, e3, e4⟩ := hrep i gm hgm
        have hgc : (cond c ga.ver gb'.ver) = gb.ver := by
          rw [← hy] at e3
          cases c
          · have e3 : nth y2.mem.stgs i = some gb := e3
            rw [hb'] at e3; simp only [Option.some.injEq] at e3; subst e3; rfl
          · have e3 : nth y1.mem.stgs i = some gb := e3
            rw [ha] at e3; simp only [Option.some.injEq] at e3; subst e3; rfl
        rw [hgc] at hv
        cases hv with
        | tip _ _ _ s' _ hs' hv' hval hat =>
          have hok := hM.stg i gb s' e3 hs'
          refine .tip _ _ _ { s' with ver := gm.ver } _ (retag_of hgm hs') (Nat.le_refl _) (fun _ => ?_) hat
          rw [hval hok.ver]; rfl
      · simp at htm
    · simp at htm
  refine ⟨x'', ⟨⟨⟨?_, ?_⟩, ?_, hR.d⟩, ?_, hr.t⟩, hback.b⟩
  · rw [q1, k1.sl, ← kc.sl]; exact hR.f.size
  · intro i v hv
    by_cases hd : tbit (Nat.lor y1.dirty y2.dirty) i = true
    · have hres := mSlots_ok hcut (fun i => a'.tmps.getD i undef) _ _ 0 _ h2 (fun i v _ hv => ?_) i v (by rw [Nat.zero_add]; exact hd) hv
      · simpa using hres
      rw [Nat.zero_add]
      refine hR.f.slot i v ?_
      rw [← hy]
      cases c
      · exact hv
      · exact hv
    · have hd' : tbit (Nat.lor y1.dirty y2.dirty) i = false := by simpa using hd
      have hd2 := hd'
      rw [tbit_lor, Bool.or_eq_false_iff] at hd2
      rw [q2 i (by rw [Nat.zero_add]; exact hd'), (k1.slot i hd2.1).2] at hv
      have hold := hp.r.f.slot i v hv
      have hnow : nth yc.slots i = some v := by
        rw [← hy]
        cases c
        · show nth y2.slots i = some v; rw [(k2.slot i hd2.2).2]; exact hv
        · show nth y1.slots i = some v; rw [(k1.slot i hd2.1).2]; exact hv
      exact RV.cut hback hold (hR.f.slot i v hnow)
  · refine ⟨hM.fresh, hM.fz, ?_, ?_, fun b p h => hM.mown b p (firstN_some h).2, fun b b' p h h' => hM.inj b b' p (firstN_some h).2 (firstN_some h').2, ?_, ?_, ?_, ?_⟩
    · show (firstN s.mem.boxes.length x'.M).length = m.mem.boxes.length
      rw [firstN_len hMl, q3']
    · intro b l p hl hpM
      obtain ⟨hb, hpM'⟩ := firstN_some hpM
      obtain ⟨l0, hl0⟩ := nth_ex hb
      obtain ⟨l1, e1, e2, e3⟩ := k1.box b l0 hl0
      obtain ⟨l2, g1, g2, g3⟩ := k2.box b l0 hl0
      obtain ⟨q', f1, f2, f3⟩ := q4 b l1 (by rw [firstN_nth hb]; exact e1)
      have : q' = l := by rw [hl] at f1; simpa using f1.symm
      subst this
      have hnow : ∃ lc, nth yc.mem.boxes b = some lc ∧ lc.length = l0.length ∧ ∀ j, memP (joinP y1.bd y2.bd) b j = false → nth lc j = nth l0 j := by
        rw [← hy]
        cases c
        · exact ⟨l2, g1, g2, fun j hj => by rw [memP_joinP, Bool.or_eq_false_iff] at hj; exact (g3 j hj.2).2⟩
        · exact ⟨l1, e1, e2, fun j hj => by rw [memP_joinP, Bool.or_eq_false_iff] at hj; exact (e3 j hj.1).2⟩
      obtain ⟨lc, n1, n2, n3⟩ := hnow
      obtain ⟨C, T, p1, p2⟩ := hM.box b lc p n1 hpM'
      obtain ⟨p0, hp0⟩ := hpm.M_of hl0
      obtain ⟨C0, T0, p3, p4⟩ := hpm.box b l0 p0 hl0 hp0
      refine ⟨C, T, p1, RL.of_nth (by rw [f2, e2, ← n2]; exact p2.length) fun j e he => ?_⟩
      by_cases hd : memP (joinP y1.bd y2.bd) b j = true
      · have hjlt : j < C.length := by rw [← p2.length, n2, ← e2, ← f2]; exact nth_lt he
        refine ⟨C[j], List.getElem?_eq_getElem hjlt, ?_⟩
        have key := mBoxes_ok hcut (y := y2.mem.boxes) (fun b j => ((w'.heap[(nth x'.M b).getD 0]?).bind fun o => match o with | .cells C _ _ => C[j]? | _ => none).getD undef) _ _ _ h3
          (fun b2 q2 j2 a2 hb2 _ hq2 ha2 => by
            have hq2' : nth yc.mem.boxes b2 = some q2 := by
              rw [← hy]
              cases c
              · exact hq2
              · exact (firstN_some (show nth (firstN s.mem.boxes.length y1.mem.boxes) b2 = some q2 from hq2)).2
            obtain ⟨pp, hpp⟩ := nth_ex (l := x'.M) (n := b2) (by omega)
            obtain ⟨C2, T2, r1, r2⟩ := hM.box b2 q2 pp hq2' hpp
            obtain ⟨v2, r3, r4⟩ := r2.nth j2 a2 ha2
            simpa [hpp, r1, r3] using r4) b q' j e hb hd hl he
        have hval : ((w'.heap[(nth x'.M b).getD 0]?).bind fun o => match o with | .cells C _ _ => C[j]? | _ => none).getD undef = C[j] := by
          simp [hpM', p1, hjlt]
        rw [hval] at key; exact key
      · have hd' : memP (joinP y1.bd y2.bd) b j = false := by simpa using hd
        have hd2 := hd'
        rw [memP_joinP, Bool.or_eq_false_iff] at hd2
        rw [f3 j hd', (e3 j hd2.1).2] at he
        obtain ⟨v, v1, v2⟩ := p2.nth j e (by rw [n3 j hd']; exact he)
        obtain ⟨v0, _, v3⟩ := p4.nth j e he
        exact ⟨v, v1, v3.cut hback v2⟩
    · show (retag m.mem.stgs x'.S).length = _
      rw [retag_len hSl]
    · intro i g s'' hg hs''
      obtain ⟨g', gb, s', e1, e2, e3, e4, e5, e6⟩ := hS2 i s'' hs''
      have : g' = g := by rw [hg] at e1; simpa using e1.symm
      subst this
      rw [e5]
      exact (e6.rep e4).ctx (fun _ _ _ h => h) (fun _ _ _ _ => rfl)
    · intro i s'' p cap hs'' hb
      obtain ⟨g', gb, s', e1, e2, e3, e4, e5, e6⟩ := hS2 i s'' hs''
      rw [e5] at hb
      obtain ⟨o1, o2⟩ := hM.sown i s' p cap e3 hb
      exact ⟨o1, fun b e => o2 b (firstN_some e).2⟩
    · intro i i' s1 s2 p c1 c2 hs1 hs2 hb1 hb2
      obtain ⟨_, _, s1', _, _, e3, _, e5, _⟩ := hS2 i s1 hs1
      obtain ⟨_, _, s2', _, _, f3, _, f5, _⟩ := hS2 i' s2 hs2
      rw [e5] at hb1; rw [f5] at hb2
      exact hM.sinj i i' s1' s2' p c1 c2 e3 f3 hb1 hb2
  · refine ⟨hr.e.own, fun b p h => hback.b.M b p (hp.e.M b p h), fun i si hsi => ?_, hr.e.fz, hr.e.new⟩
    obtain ⟨s1, e1, e2⟩ := hp.e.S i si hsi
    obtain ⟨s2, e3, e4⟩ := hback.b.S i s1 e1
    exact ⟨s2, e3, e2.trans e4⟩
end Go.S3
