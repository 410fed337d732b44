/-
  Soundness of the symbolic executor, part 8: two states made one. Conditions: none (lemmas).
-/
import Derived.Test.YtmhebjdoodiikaaSxKeep
namespace Go.Sx

/-- A state that was reached from the call's beginning (x0, w0). -/
structure RelH (x0 : Ctx) (w0 : World) (x : Ctx) (s : St) (a : Act) (w : World) : Prop where
  r : Rel x s a w
  e : Ext [] x0 x
  t : Step x0 w0 w
def ExtM (x x' : Ctx) : Prop := ∀ b p, nth x.M b = some p → nth x'.M b = some p
theorem ExtM.refl (x : Ctx) : ExtM x x := fun _ _ h => h
theorem ExtM.trans {x y z : Ctx} (h : ExtM x y) (k : ExtM y z) : ExtM x z := fun b p e => k b p (h b p e)

def QK (Q : Exit → Act → World → Prop) : K → Act → World → Prop
  | .normal, a, w => Q .normal a w
  | .exit i, a, w => Q (.exit i) a w
  | .ret, a, w => Q .ret a w
  | .stop, _, _ => False
/-- Whoever reaches this outcome is done. -/
def Hold (x0 : Ctx) (w0 : World) (x : Ctx) (Q : Exit → Act → World → Prop) (o : Out) : Prop :=
  ∀ x' a' w', RelH x0 w0 x' o.s a' w' → ExtM x x' → QK Q o.k a' w'

/-- What is said of a value in x' is said of it in x'' too, if x'' has the boxes that the value names. -/
theorem RA.cut {x : Ctx} {a : A} {v0 : Value} (h : RA x a v0) : ∀ {x' x'' : Ctx} {v : Value}, ExtM x x' → ExtM x x'' → x''.S = x'.S → x''.fz = x'.fz → x''.own = x'.own → RA x' a v → RA x'' a v := by
  induction h with
  | bool x l b => intro x' x'' v _ _ _ _ _ k; cases k; exact .bool _ _ _
  | int x l k n h => intro x' x'' v _ _ _ _ _ k; cases k; exact .int _ _ _ _ h
  | str x s => intro x' x'' v _ _ _ _ _ k; cases k; exact .str _ _
  | loc x b o p h =>
    intro x' x'' v h1 h2 _ _ _ k
    cases k with
    | loc _ _ _ q hq =>
      have : q = p := by rw [h1 b p h] at hq; simpa using hq.symm
      subst this
      exact .loc _ _ _ _ (h2 b q h)
  | nilp x => intro x' x'' v _ _ _ _ _ k; cases k; exact .nilp _
  | nilsl x => intro x' x'' v _ _ _ _ _ k; cases k; exact .nilsl _
  | lst0 x e hb n get ys a cap h =>
    intro x' x'' v _ _ h3 h4 h5 k
    have hbare : x''.bare = x'.bare := by simp only [Ctx.bare, h4, h5]
    cases k with
    | lst0 _ _ _ _ _ _ a cap h => exact .lst0 _ _ _ _ _ _ _ _ h
    | lst _ _ _ _ _ _ p o cap c hl hf hr => exact .lst _ _ _ _ _ _ _ _ _ c hl (by rw [h4]; exact hf) (by rw [hbare]; exact hr)
  | lst x e hb n get ys p o cap c hl hf hr ih =>
    intro x' x'' v _ _ h3 h4 h5 k
    have hbare : x''.bare = x'.bare := by simp only [Ctx.bare, h4, h5]
    cases k with
    | lst0 _ _ _ _ _ _ a cap h => exact .lst0 _ _ _ _ _ _ _ _ h
    | lst _ _ _ _ _ _ p o cap c hl hf hr => exact .lst _ _ _ _ _ _ _ _ _ c hl (by rw [h4]; exact hf) (by rw [hbare]; exact hr)
  | tip0 x h s hs hb hn =>
    intro x' x'' v _ _ h3 _ _ k
    cases k with
    | tip0 _ _ s hs hb hn => exact .tip0 _ _ s (by rw [h3]; exact hs) hb hn
    | tip _ _ s p cap hs hb => exact .tip _ _ s _ _ (by rw [h3]; exact hs) hb
  | tip x h s p cap hs hb =>
    intro x' x'' v _ _ h3 _ _ k
    cases k with
    | tip0 _ _ s hs hb hn => exact .tip0 _ _ s (by rw [h3]; exact hs) hb hn
    | tip _ _ s p cap hs hb => exact .tip _ _ s _ _ (by rw [h3]; exact hs) hb
  | fp x l p o c hf hr ih =>
    intro x' x'' v _ _ _ h4 h5 k
    have hbare : x''.bare = x'.bare := by simp only [Ctx.bare, h4, h5]
    cases k with
    | fp _ _ p o c hf hr => exact .fp _ _ _ _ c (by rw [h4]; exact hf) (by rw [hbare]; exact hr)
  | sp x h l i o s p cap hs hb hi =>
    intro x' x'' v _ _ h3 _ _ k
    cases k with
    | sp _ _ _ _ _ s p cap hs hb hi => exact .sp _ _ _ _ _ s _ _ (by rw [h3]; exact hs) hb hi
  | clo x f caps cs c hl hc hr ih =>
    intro x' x'' v h1 h2 h3 h4 h5 k
    cases k with
    | clo _ _ _ cs' c' hl' hc' hr' => exact .clo _ _ _ _ c' hl' hc' (fun j a ha => ih j a ha h1 h2 h3 h4 h5 (hr' j a ha))
  | raw x v h => intro x' x'' u _ _ _ _ _ k; cases k; exact .raw _ _ h
  | junk x v h => intro x' x'' u _ _ _ _ _ k; exact .junk _ _ k.atomic
theorem RL.cut {x x' x'' : Ctx} (h1 : ExtM x x') (h2 : ExtM x x'') (h3 : x''.S = x'.S) (h4 : x''.fz = x'.fz) (h5 : x''.own = x'.own) : ∀ {l : List A} {u v : List Value}, RL x l u → RL x' l v → RL x'' l v
  | [], [], [], _, _ => trivial
  | _ :: _, _ :: _, _ :: _, h, k => ⟨h.1.cut h1 h2 h3 h4 h5 k.1, RL.cut h1 h2 h3 h4 h5 h.2 k.2⟩
  | [], _ :: _, _, h, _ => h.elim
  | [], [], _ :: _, _, k => k.elim
  | _ :: _, [], _, h, _ => h.elim
  | _ :: _, _ :: _, [], _, k => k.elim
theorem RW.cut {x x' x'' : Ctx} (h1 : ExtM x x') (h2 : ExtM x x'') (h3 : x''.S = x'.S) (h4 : x''.fz = x'.fz) (h5 : x''.own = x'.own) {l : W} {u v : Value} (h : RW x l u) (k : RW x' l v) : RW x'' l v := by
  cases l with
  | one a => exact RA.cut h h1 h2 h3 h4 h5 k
  | agg l => obtain ⟨C, _, h⟩ := h; obtain ⟨D, e, k⟩ := k; exact ⟨D, e, h.cut h1 h2 h3 h4 h5 k⟩
  | junk => trivial
theorem RWs.cut {x x' x'' : Ctx} (h1 : ExtM x x') (h2 : ExtM x x'') (h3 : x''.S = x'.S) (h4 : x''.fz = x'.fz) (h5 : x''.own = x'.own) : ∀ {l : List W} {u v : List Value}, RWs x l u → RWs x' l v → RWs x'' l v
  | [], [], [], _, _ => trivial
  | _ :: _, _ :: _, _ :: _, h, k => ⟨RW.cut h1 h2 h3 h4 h5 h.1 k.1, RWs.cut h1 h2 h3 h4 h5 h.2 k.2⟩
  | [], _ :: _, _, h, _ => h.elim
  | [], [], _ :: _, _, k => k.elim
  | _ :: _, [], _, h, _ => h.elim
  | _ :: _, _ :: _, [], _, k => k.elim
theorem RV.cut {x x' x'' : Ctx} (h1 : ExtM x x') (h2 : ExtM x x'') (h3 : x''.S = x'.S) (h4 : x''.fz = x'.fz) (h5 : x''.own = x'.own) {l : V} {u v : Value} (h : RV x l u) (k : RV x' l v) : RV x'' l v := by
  cases l with
  | w a => exact RW.cut h1 h2 h3 h4 h5 h k
  | tup l => obtain ⟨C, _, h⟩ := h; obtain ⟨D, e, k⟩ := k; exact ⟨D, e, h.cut h1 h2 h3 h4 h5 k⟩

theorem mSlots_ok {nb nm : Nat} {x x' : Ctx} (hx : Cut nb x x') (hx' : Ext [] x' x) {c : Bool} {y : List V} (u : Nat → Value) (hy : c = false → ∀ i v, nth y i = some v → RV x v (u i)) :
    ∀ (ts : List Nat) (l r : List V), mSlots c nb nm y ts l = some r → (c = true → ∀ i v, nth l i = some v → RV x v (u i)) →
      r.length = l.length ∧ (∀ i, memN ts i = false → nth r i = nth l i) ∧ (∀ i v, memN ts i = true → nth r i = some v → RV x' v (u i))
  | [], l, r, h, _ => by
    simp only [mSlots, Option.some.injEq] at h; subst h
    exact ⟨rfl, fun _ _ => rfl, fun i v h => by simp [memN] at h⟩
  | t :: ts, l, r, h, hl => by
    simp only [mSlots] at h
    split at h
    · rename_i a b ha hb
      split at h
      · rename_i z hz
        have hz' : RV x' z (u t) := mV_ok hx hz (by
          cases c
          · exact hy rfl t b hb
          · exact hl rfl t a ha)
        obtain ⟨h1, h2, h3⟩ := mSlots_ok hx hx' u hy ts _ r h (fun hc i v hv => by
          by_cases e : t = i
          · subst e
            rw [nth_eq, setN_eq, List.getElem?_set_self (nth_lt ha)] at hv
            simp only [Option.some.injEq] at hv; subst hv
            exact hz'.mono hx'
          · rw [nth_eq, setN_eq, List.getElem?_set_ne e, ← nth_eq] at hv
            exact hl hc i v hv)
        refine ⟨by simpa [setN_eq] using h1, fun i hi => ?_, fun i v hi hv => ?_⟩
        · simp only [memN, Bool.or_eq_false_iff] at hi
          rw [h2 i hi.2]
          have : t ≠ i := by intro e; subst e; simp at hi
          rw [nth_eq, setN_eq, List.getElem?_set_ne this, ← nth_eq]
        · by_cases hm : memN ts i = true
          · exact h3 i v hm hv
          · have hm' : memN ts i = false := by simpa using hm
            simp only [memN, hm', Bool.or_false, Nat.beq_eq] at hi
            subst hi
            rw [h2 _ hm', nth_eq, setN_eq, List.getElem?_set_self (nth_lt ha)] at hv
            simp only [Option.some.injEq] at hv; subst hv
            exact hz'
      · simp at h
    · simp at h

theorem mBoxes_ok {nb : Nat} {x x' : Ctx} (hx : Cut nb x x') (hx' : Ext [] x' x) {c : Bool} {y : List (List A)} (u : Nat → Nat → Value)
    (hy : c = false → ∀ b l j a, b < nb → nth y b = some l → nth l j = some a → RA x a (u b j)) :
    ∀ (ts : List (Nat × Nat)) (l r : List (List A)), mBoxes c nb y ts l = some r → (c = true → ∀ b q j a, b < nb → nth l b = some q → nth q j = some a → RA x a (u b j)) →
      r.length = l.length ∧ ∀ b q, nth l b = some q → ∃ q', nth r b = some q' ∧ q'.length = q.length ∧
        ∀ j, (memP ts b j = false → nth q' j = nth q j) ∧ (memP ts b j = true → b < nb → ∀ a, nth q' j = some a → RA x' a (u b j))
  | [], l, r, h, _ => by
    simp only [mBoxes, Option.some.injEq] at h; subst h
    exact ⟨rfl, fun b q hq => ⟨q, hq, rfl, fun j => ⟨fun _ => rfl, fun h => by simp [memP] at h⟩⟩⟩
  | (b, o) :: ts, l, r, h, hl => by
    simp only [mBoxes] at h
    split at h
    · rename_i hlt
      obtain ⟨h1, h2⟩ := mBoxes_ok hx hx' u hy ts l r h hl
      refine ⟨h1, fun b' q hq => ?_⟩
      obtain ⟨q', e1, e2, e3⟩ := h2 b' q hq
      refine ⟨q', e1, e2, fun j => ?_⟩
      obtain ⟨e4, e5⟩ := e3 j
      refine ⟨fun hm => ?_, fun hm hb a ha => ?_⟩
      · simp only [memP, Bool.or_eq_false_iff] at hm
        exact e4 hm.2
      · simp only [memP, Bool.or_eq_true, Bool.and_eq_true, Nat.beq_eq] at hm
        rcases hm with ⟨rfl, _⟩ | hm
        · simp [← Bool.not_eq_true] at hlt; omega
        · exact e5 hm hb a ha
    · rename_i hlt
      simp only [Nat.blt_eq] at hlt
      split at h
      · rename_i q0 q1 hq0 hq1
        split at h
        · rename_i a a' ha ha'
          split at h
          · rename_i z hz
            have hz' : RA x' z (u b o) := mA_ok hx hz (by
              cases c
              · exact hy rfl b q1 o a' hlt hq1 ha'
              · exact hl rfl b q0 o a hlt hq0 ha)
            obtain ⟨h1, h2⟩ := mBoxes_ok hx hx' u hy ts _ r h (fun hc b' q j a2 hb' hq ha2 => by
              by_cases e : b = b'
              · subst e
                rw [nth_eq, setN_eq, List.getElem?_set_self (nth_lt hq0)] at hq
                simp only [Option.some.injEq] at hq; subst hq
                by_cases e2 : o = j
                · subst e2
                  rw [nth_eq, setN_eq, List.getElem?_set_self (nth_lt ha)] at ha2
                  simp only [Option.some.injEq] at ha2; subst ha2
                  exact hz'.mono hx'
                · rw [nth_eq, setN_eq, List.getElem?_set_ne e2, ← nth_eq] at ha2
                  exact hl hc b q0 j a2 hb' hq0 ha2
              · rw [nth_eq, setN_eq, List.getElem?_set_ne e, ← nth_eq] at hq
                exact hl hc b' q j a2 hb' hq ha2)
            refine ⟨by simpa [setN_eq] using h1, fun b' q hq => ?_⟩
            by_cases e : b = b'
            · subst e
              have : q = q0 := by rw [hq0] at hq; simpa using hq.symm
              subst this
              obtain ⟨q', e1, e2, e3⟩ := h2 b (setN q o z) (by rw [nth_eq, setN_eq, List.getElem?_set_self (nth_lt hq0)])
              refine ⟨q', e1, by simpa [setN_eq] using e2, fun j => ?_⟩
              obtain ⟨e4, e5⟩ := e3 j
              refine ⟨fun hm => ?_, fun hm hb a2 ha2 => ?_⟩
              · simp only [memP, Bool.or_eq_false_iff] at hm
                rw [e4 hm.2]
                have : o ≠ j := by intro e; subst e; simp at hm
                rw [nth_eq, setN_eq, List.getElem?_set_ne this, ← nth_eq]
              · by_cases hm2 : memP ts b j = true
                · exact e5 hm2 hb a2 ha2
                · have hm2' : memP ts b j = false := by simpa using hm2
                  simp only [memP, hm2', Bool.or_false, Bool.and_eq_true, Nat.beq_eq] at hm
                  obtain ⟨_, rfl⟩ := hm
                  rw [e4 hm2', nth_eq, setN_eq, List.getElem?_set_self (nth_lt ha)] at ha2
                  simp only [Option.some.injEq] at ha2; subst ha2
                  exact hz'
            · obtain ⟨q', e1, e2, e3⟩ := h2 b' q (by rw [nth_eq, setN_eq, List.getElem?_set_ne e, ← nth_eq]; exact hq)
              refine ⟨q', e1, e2, fun j => ?_⟩
              obtain ⟨e4, e5⟩ := e3 j
              refine ⟨fun hm => ?_, fun hm hb a2 ha2 => ?_⟩
              · simp only [memP, Bool.or_eq_false_iff] at hm
                exact e4 hm.2
              · simp only [memP, Bool.or_eq_true, Bool.and_eq_true, Nat.beq_eq] at hm
                rcases hm with ⟨rfl, _⟩ | hm
                · exact absurd rfl e
                · exact e5 hm hb a2 ha2
          · simp at h
        · simp at h
      · simp at h

theorem firstN_nth {α : Type} {n : Nat} {l : List α} {b : Nat} (h : b < n) : nth (firstN n l) b = nth l b := by
  rw [firstN_eq, nth_eq, nth_eq, List.getElem?_take, if_pos h]
theorem firstN_some {α : Type} {n : Nat} {l : List α} {b : Nat} {a : α} (h : nth (firstN n l) b = some a) : b < n ∧ nth l b = some a := by
  have h1 := nth_lt h
  rw [firstN_eq] at h1
  rw [List.length_take] at h1
  have h2 : b < n := by omega
  exact ⟨h2, by rw [← firstN_nth h2]; exact h⟩

theorem mSlots_shape {c : Bool} {nb nm : Nat} {y : List V} : ∀ {ts : List Nat} {l r : List V}, mSlots c nb nm y ts l = some r → r.length = l.length ∧ ∀ i, memN ts i = false → nth r i = nth l i
  | [], l, r, h => by
    simp only [mSlots, Option.some.injEq] at h; subst h
    exact ⟨rfl, fun _ _ => rfl⟩
  | t :: ts, l, r, h => by
    simp only [mSlots] at h
    split at h
    · split at h
      · obtain ⟨h1, h2⟩ := mSlots_shape h
        refine ⟨by simpa [setN_eq] using h1, fun i hi => ?_⟩
        simp only [memN, Bool.or_eq_false_iff] at hi
        rw [h2 i hi.2]
        have : t ≠ i := by intro e; subst e; simp at hi
        rw [nth_eq, setN_eq, List.getElem?_set_ne this, ← nth_eq]
      · simp at h
    · simp at h
theorem mBoxes_shape {c : Bool} {nb : Nat} {y : List (List A)} : ∀ {ts : List (Nat × Nat)} {l r : List (List A)}, mBoxes c nb y ts l = some r → r.length = l.length ∧
    ∀ b q, nth l b = some q → ∃ q', nth r b = some q' ∧ q'.length = q.length ∧ ∀ j, memP ts b j = false → nth q' j = nth q j
  | [], l, r, h => by
    simp only [mBoxes, Option.some.injEq] at h; subst h
    exact ⟨rfl, fun b q hq => ⟨q, hq, rfl, fun j _ => rfl⟩⟩
  | (b, o) :: ts, l, r, h => by
    simp only [mBoxes] at h
    split at h
    · obtain ⟨h1, h2⟩ := mBoxes_shape h
      refine ⟨h1, fun b' q hq => ?_⟩
      obtain ⟨q', e1, e2, e3⟩ := h2 b' q hq
      refine ⟨q', e1, e2, fun j hj => e3 j ?_⟩
      simp only [memP, Bool.or_eq_false_iff] at hj
      exact hj.2
    · split at h
      · rename_i q0 q1 hq0 hq1
        split at h
        · rename_i a a' ha ha'
          split at h
          · rename_i z hz
            obtain ⟨h1, h2⟩ := mBoxes_shape h
            refine ⟨by simpa [setN_eq] using h1, fun b' q hq => ?_⟩
            by_cases e : b = b'
            · subst e
              have : q = q0 := by rw [hq0] at hq; simpa using hq.symm
              subst this
              obtain ⟨q', e1, e2, e3⟩ := h2 b (setN q o z) (by rw [nth_eq, setN_eq, List.getElem?_set_self (nth_lt hq0)])
              refine ⟨q', e1, by simpa [setN_eq] using e2, fun j hj => ?_⟩
              simp only [memP, Bool.or_eq_false_iff] at hj
              rw [e3 j hj.2]
              have : o ≠ j := by intro e; subst e; simp at hj
              rw [nth_eq, setN_eq, List.getElem?_set_ne this, ← nth_eq]
            · obtain ⟨q', e1, e2, e3⟩ := h2 b' q (by rw [nth_eq, setN_eq, List.getElem?_set_ne e, ← nth_eq]; exact hq)
              refine ⟨q', e1, e2, fun j hj => e3 j ?_⟩
              simp only [memP, Bool.or_eq_false_iff] at hj
              exact hj.2
          · simp at h
        · simp at h
      · simp at h

theorem mergeS_keep {s : St} (hs : s.dirty = [] ∧ s.bd = [] ∧ s.sd = false) {nm : Nat} {c : Bool} {y1 y2 m : St}
    (k1 : Keep s y1) (hm : mergeS c (len s.mem.boxes) nm y1 y2 = some m) : Keep s m := by
  unfold mergeS at hm
  split at hm
  · simp at hm
  · rename_i hsd
    simp only [Bool.or_eq_false_iff] at hsd
    obtain ⟨sd1, sd2⟩ := hsd
    split at hm
    · simp at hm
    · rename_i sl hsl
      split at hm
      · simp at hm
      · rename_i bx hbx
        simp only [Option.some.injEq] at hm
        subst hm
        have hnb : len s.mem.boxes = s.mem.boxes.length := len_eq _
        have st1 := (k1.sd sd1).2
        have hlen1 : sl.length = y1.slots.length ∧ (∀ i, memN (joinN y1.dirty y2.dirty) i = false → nth sl i = nth y1.slots i) := mSlots_shape hsl
        have hlen2 := mBoxes_shape hbx
        refine ⟨by rw [hlen1.1]; exact k1.sl, fun t ht => ?_, ?_, fun b l hl => ?_, fun _ => ⟨hs.2.2, st1⟩⟩
        · refine ⟨by rw [hs.1]; rfl, ?_⟩
          have ht' := ht
          rw [memN_joinN, Bool.or_eq_false_iff] at ht'
          rw [hlen1.2 t ht, (k1.slot t ht'.1).2]
        · show s.mem.boxes.length ≤ bx.length
          rw [hlen2.1, firstN_eq]
          have := k1.bl
          simp [hnb]; omega
        · obtain ⟨l1, e1, e2, e3⟩ := k1.box b l hl
          have hb : b < len s.mem.boxes := by rw [hnb]; exact nth_lt hl
          obtain ⟨q', f1, f2, f3⟩ := hlen2.2 b l1 (by rw [firstN_nth hb]; exact e1)
          refine ⟨q', f1, f2.trans e2, fun j hj => ⟨by rw [hs.2.1]; rfl, ?_⟩⟩
          have hj' := hj
          rw [memP_joinP, Bool.or_eq_false_iff] at hj'
          rw [f3 j hj, (e3 j hj'.1).2]
theorem mergeS_ok {x0 x : Ctx} {w0 w : World} {s : St} {a : Act} (hp : RelH x0 w0 x s a w) (hs : s.dirty = [] ∧ s.bd = [] ∧ s.sd = false) {nm : Nat} {c : Bool} {y1 y2 m : St}
    (k1 : Keep s y1) (k2 : Keep s y2) (hm : mergeS c (len s.mem.boxes) nm y1 y2 = some m) :
    Keep s m ∧ ∀ x' a' w', RelH x0 w0 x' (cond c y1 y2) a' w' → ExtM x x' → ∃ x'', RelH x0 w0 x'' m a' w' ∧ ExtM x x'' := by
  have hm0 := hm
  unfold mergeS at hm
  split at hm
  · simp at hm
  · rename_i hsd
    simp only [Bool.or_eq_false_iff] at hsd
    obtain ⟨sd1, sd2⟩ := hsd
    split at hm
    · simp at hm
    · rename_i sl hsl
      split at hm
      · simp at hm
      · rename_i bx hbx
        simp only [Option.some.injEq] at hm
        subst hm
        have hnb : len s.mem.boxes = s.mem.boxes.length := len_eq _
        have st1 := (k1.sd sd1).2
        have st2 := (k2.sd sd2).2
        -- the shape of the merged slots and boxes does not hang on values: take any frame
        have shape : ∀ (z z' : Ctx) (_ : Cut (len s.mem.boxes) z z') (_ : Ext [] z' z) (u : Nat → Value) (ub : Nat → Nat → Value), (∀ i v, nth (cond c y1 y2).slots i = some v → RV z v (u i)) →
            (∀ b l j e, b < len s.mem.boxes → nth (cond c y1 y2).mem.boxes b = some l → nth l j = some e → RA z e (ub b j)) →
            (sl.length = y1.slots.length ∧ (∀ i, memN (joinN y1.dirty y2.dirty) i = false → nth sl i = nth y1.slots i) ∧ (∀ i v, memN (joinN y1.dirty y2.dirty) i = true → nth sl i = some v → RV z' v (u i))) ∧
            (bx.length = (firstN (len s.mem.boxes) y1.mem.boxes).length ∧ ∀ b q, nth (firstN (len s.mem.boxes) y1.mem.boxes) b = some q → ∃ q', nth bx b = some q' ∧ q'.length = q.length ∧
              ∀ j, (memP (joinP y1.bd y2.bd) b j = false → nth q' j = nth q j) ∧ (memP (joinP y1.bd y2.bd) b j = true → b < len s.mem.boxes → ∀ e, nth q' j = some e → RA z' e (ub b j))) := by
          intro z z' hc he u ub hu hub
          refine ⟨mSlots_ok hc he u (fun hc i v hv => hu i v (by rw [hc]; exact hv)) _ _ _ hsl (fun hc i v hv => hu i v (by rw [hc]; exact hv)), ?_⟩
          exact mBoxes_ok hc he ub (fun hc b l j e hb hl he => hub b l j e hb (by rw [hc]; exact hl) he) _ _ _ hbx
            (fun hc b q j e hb hq he => hub b q j e hb (by rw [hc]; exact (firstN_some hq).2) he)
        refine ⟨?_, ?_⟩
        · exact mergeS_keep hs k1 hm0
        · intro x' a' w' hr hxx
          let x'' : Ctx := { x' with M := firstN (len s.mem.boxes) x'.M }
          have hcut : Cut (len s.mem.boxes) x' x'' := ⟨rfl, fun b hb => firstN_nth hb, rfl, rfl⟩
          have hback : Ext [] x'' x' := ⟨rfl, fun b p h => (firstN_some h).2, fun _ _ h _ => h, fun _ _ _ h => h, fun _ _ _ h => .inl h⟩
          have hMx : ∀ b p, nth x.M b = some p → b < len s.mem.boxes := by
            intro b p h
            have h1 := nth_lt h
            have h2 := hp.r.m.ml
            rw [len_eq] at h2; omega
          have hxx2 : ExtM x x'' := fun b p h => by
            show nth (firstN (len s.mem.boxes) x'.M) b = some p
            rw [firstN_nth (hMx b p h)]; exact hxx b p h
          have hR := hr.r
          have hsl' : (cond c y1 y2).slots.length = s.slots.length := by cases c; exact k2.sl; exact k1.sl
          have hstg : (cond c y1 y2).mem.stgs = s.mem.stgs := by cases c; exact st2; exact st1
          have hbl : s.mem.boxes.length ≤ (cond c y1 y2).mem.boxes.length := by cases c; exact k2.bl; exact k1.bl
          obtain ⟨⟨s1, s2, s3⟩, ⟨b1, b2⟩⟩ := shape x' x'' hcut hback (fun i => a'.tmps.getD i undef) (fun b j => ((w'.heap[(nth x'.M b).getD 0]?).bind fun o => match o with | .cells C _ _ => C[j]? | _ => none).getD undef)
            (fun i v hv => hR.f.slot i v hv) (fun b l j e hb hl he => by
              have hlt : b < x'.M.length := by have := hR.m.ml; rw [len_eq, len_eq] at this; rw [this]; exact nth_lt hl
              have hp' : nth x'.M b = some x'.M[b] := by rw [nth_eq]; exact List.getElem?_eq_getElem hlt
              obtain ⟨C, T, q1, q2⟩ := hR.m.box b l _ hl hp'
              obtain ⟨v, q3, q4⟩ := q2.nth j e he
              simpa [hp', q1, q3] using q4)
          refine ⟨x'', ⟨⟨⟨?_, ?_⟩, ?_, hR.d⟩, ?_, hr.t⟩, hxx2⟩
          · show sl.length = a'.tmps.size
            rw [s1, k1.sl, ← hsl']; exact hR.f.size
          · intro i v hv
            by_cases hd : memN (joinN y1.dirty y2.dirty) i = true
            · exact s3 i v hd hv
            · have hd' : memN (joinN y1.dirty y2.dirty) i = false := by simpa using hd
              have hd2 := hd'
              rw [memN_joinN, Bool.or_eq_false_iff] at hd2
              have hv : nth sl i = some v := hv
              rw [s2 i hd', (k1.slot i hd2.1).2] at hv
              have hold := hp.r.f.slot i v hv
              have hnow : nth (cond c y1 y2).slots i = some v := by
                cases c
                · show nth y2.slots i = some v; rw [(k2.slot i hd2.2).2]; exact hv
                · show nth y1.slots i = some v; rw [(k1.slot i hd2.1).2]; exact hv
              exact RV.cut hxx hxx2 rfl rfl rfl hold (hR.f.slot i v hnow)
          · have hm := hR.m
            have hml := hm.ml
            rw [len_eq, len_eq] at hml
            refine ⟨hm.fresh, hm.fz, ?_, ?_, fun b p h => hm.mown b p (firstN_some h).2, fun b b' p h h' => hm.inj b b' p (firstN_some h).2 (firstN_some h').2, ?_, ?_, fun h s' p cap h1 h2 => ?_, hm.sinj⟩
            · show len (firstN (len s.mem.boxes) x'.M) = len bx
              rw [len_eq, len_eq bx, b1, firstN_eq, firstN_eq]
              have := k1.bl
              simp; omega
            · intro b l p hl hpM
              obtain ⟨hb, hpM'⟩ := firstN_some hpM
              have hbs : b < s.mem.boxes.length := by omega
              have hl0 : nth s.mem.boxes b = some s.mem.boxes[b] := by rw [nth_eq]; exact List.getElem?_eq_getElem hbs
              generalize s.mem.boxes[b] = l0 at hl0
              obtain ⟨l1, e1, e2, e3⟩ := k1.box b l0 hl0
              obtain ⟨l2, g1, g2, g3⟩ := k2.box b l0 hl0
              obtain ⟨q', f1, f2, f3⟩ := b2 b l1 (by rw [firstN_nth hb]; exact e1)
              have : q' = l := by
                have hl : nth bx b = some l := hl
                rw [f1] at hl; simpa using hl
              subst this
              have hnow : ∃ lc, nth (cond c y1 y2).mem.boxes b = some lc ∧ lc.length = l0.length ∧ ∀ j, memP (joinP y1.bd y2.bd) b j = false → nth lc j = nth l0 j := by
                cases c
                · exact ⟨l2, g1, g2, fun j hj => by rw [memP_joinP, Bool.or_eq_false_iff] at hj; exact (g3 j hj.2).2⟩
                · exact ⟨l1, e1, e2, fun j hj => by rw [memP_joinP, Bool.or_eq_false_iff] at hj; exact (e3 j hj.1).2⟩
              obtain ⟨lc, n1, n2, n3⟩ := hnow
              obtain ⟨C, T, q1, q2⟩ := hm.box b lc p n1 hpM'
              have hpx : ∃ p0, nth x.M b = some p0 := by
                have h2 := hp.r.m.ml
                rw [len_eq, len_eq] at h2
                rw [nth_eq]; exact ⟨_, List.getElem?_eq_getElem (by omega)⟩
              obtain ⟨p0, hp0⟩ := hpx
              obtain ⟨C0, T0, q3, q4⟩ := hp.r.m.box b l0 p0 hl0 hp0
              refine ⟨C, T, q1, RL.of_nth (by rw [f2, e2, ← n2]; exact q2.length) fun j e he => ?_⟩
              by_cases hd : memP (joinP y1.bd y2.bd) b j = true
              · have h1 := (f3 j).2 hd hb e he
                have hjlt : j < C.length := by rw [← q2.length, n2, ← e2, ← f2]; exact nth_lt he
                have hcj : C[j]? = some C[j] := List.getElem?_eq_getElem hjlt
                refine ⟨C[j], hcj, ?_⟩
                have hval : ((w'.heap[(nth x'.M b).getD 0]?).bind fun o => match o with | .cells C _ _ => C[j]? | _ => none).getD undef = C[j] := by
                  simp [hpM', q1, hcj]
                rw [hval] at h1; exact h1
              · have hd' : memP (joinP y1.bd y2.bd) b j = false := by simpa using hd
                have hd2 := hd'
                rw [memP_joinP, Bool.or_eq_false_iff] at hd2
                rw [(f3 j).1 hd', (e3 j hd2.1).2] at he
                obtain ⟨v, v1, v2⟩ := q2.nth j e (by rw [n3 j hd']; exact he)
                obtain ⟨v0, _, v3⟩ := q4.nth j e he
                exact ⟨v, v1, v3.cut hxx hxx2 rfl rfl rfl v2⟩
            · show len x'.S = len y1.mem.stgs
              rw [st1, ← hstg]; exact hm.sl
            · intro h g s' hg hs'
              have hg : nth y1.mem.stgs h = some g := hg
              rw [st1, ← hstg] at hg
              exact (hm.stg h g s' hg hs').ctx rfl
            · obtain ⟨h3, h4⟩ := hm.sown h s' p cap h1 h2
              exact ⟨h3, fun b e => h4 b (firstN_some e).2⟩
          · refine ⟨hr.e.own, fun b p h => ?_, hr.e.S, hr.e.fz, hr.e.new⟩
            exact hxx2 b p (hp.e.M b p h)
end Go.Sx
