/-
  Loops: what a loop does, told by a function on Lean data. Conditions: none (definitions and lemmas).
-/
import Derived.Test.YtmhebjdoodiikaaSxApi
namespace Go.Sx

/-- Boxes as data. -/
structure BC (α : Type) where
  enc : α → List (List A)
  dec : List (List A) → Option α
  inr : α → Prop
  ok : ∀ bx a, dec bx = some a → ∀ (x : Ctx), (∀ b l, nth bx b = some l → ∃ C, RL x l C) → inr a ∧ bx.length = (enc a).length ∧
    ∀ b l, nth bx b = some l → ∃ l', nth (enc a) b = some l' ∧ ∀ C, RL x l C → RL x l' C
  ln : ∀ a a' : α, (enc a).length = (enc a').length ∧ ∀ b l, nth (enc a) b = some l → ∃ l', nth (enc a') b = some l' ∧ l'.length = l.length
  dl : ∀ bx a, dec bx = some a → bx.length = (enc a).length ∧ ∀ b l, nth bx b = some l → ∃ l', nth (enc a) b = some l' ∧ l'.length = l.length
def BC.nil : BC Unit where
  enc _ := []
  dec := fun
    | [] => some ()
    | _ => none
  inr _ := True
  ok := by
    intro bx a h x _
    cases bx with
    | nil => exact ⟨trivial, rfl, fun b l h => by cases b <;> simp [nth] at h⟩
    | cons _ _ => simp at h
  ln := fun _ _ => ⟨rfl, fun b l h => by cases b <;> simp [nth] at h⟩
  dl := by
    intro bx a h
    cases bx with
    | nil => exact ⟨rfl, fun b l h => by cases b <;> simp [nth] at h⟩
    | cons _ _ => simp at h
def BC.cons {α β : Type} (p : PC α) (r : BC β) : BC (α × β) where
  enc a := p.enc a.1 :: r.enc a.2
  dec := fun
    | l :: bx => match p.dec l with
      | some (a, []) => match r.dec bx with
        | some b => some (a, b)
        | none => none
      | _ => none
    | _ => none
  inr a := p.inr a.1 ∧ r.inr a.2
  ok := by
    intro bx a h x hx
    split at h
    · rename_i l bx'
      split at h
      · rename_i a1 h1
        split at h
        · rename_i b1 h2
          simp only [Option.some.injEq] at h; subst h
          obtain ⟨i2, l2, e2⟩ := r.ok _ _ h2 x (fun b l h => hx (b + 1) l h)
          obtain ⟨C, hC⟩ := hx 0 l rfl
          have key : ∀ C, RL x l C → p.inr a1 ∧ RL x (p.enc a1) C := by
            intro C hC
            obtain ⟨i1, v1, v2, rfl, e3, e4⟩ := p.ok _ _ _ h1 x C hC
            have : v2 = [] := by cases v2 with | nil => rfl | cons _ _ => exact e4.elim
            subst this
            exact ⟨i1, by rw [List.append_nil]; exact e3 x rfl⟩
          refine ⟨⟨(key C hC).1, i2⟩, by simp [l2], fun b l' hl' => ?_⟩
          cases b with
          | zero =>
            simp only [nth, Option.some.injEq] at hl'; subst hl'
            exact ⟨_, rfl, fun C hC => (key C hC).2⟩
          | succ b => exact e2 b l' hl'
        · simp at h
      · simp at h
    · simp at h
  ln := fun a a' => by
    obtain ⟨h1, h2⟩ := r.ln a.2 a'.2
    refine ⟨by simp [h1], fun b l h => ?_⟩
    cases b with
    | zero => simp only [nth, Option.some.injEq] at h; subst h; exact ⟨_, rfl, p.ln _ _⟩
    | succ b => exact h2 b l h
  dl := by
    intro bx a h
    split at h
    · rename_i l bx'
      split at h
      · rename_i a1 h1
        split at h
        · rename_i b1 h2
          simp only [Option.some.injEq] at h; subst h
          obtain ⟨l2, e2⟩ := r.dl _ _ h2
          have l1 := p.dl _ _ _ h1
          refine ⟨by simp [l2], fun b l' hl' => ?_⟩
          cases b with
          | zero => simp only [nth, Option.some.injEq] at hl'; subst hl'; exact ⟨_, rfl, by simp at l1; exact l1.symm⟩
          | succ b => exact e2 b l' hl'
        · simp at h
      · simp at h
    · simp at h

/-- A state as data: some slots, all boxes. -/
structure LC (α : Type) where
  encS : α → List (Nat × V)
  encB : α → List (List A)
  dec : List V → List (List A) → Option α
  inr : α → Prop
  ok : ∀ sl bx a, dec sl bx = some a → ∀ (x : Ctx) t, RF x sl t → (∀ b l, nth bx b = some l → ∃ C, RL x l C) → (inr a ∧ ∀ i v, (i, v) ∈ encS a → RV x v (t.getD i undef)) ∧ bx.length = (encB a).length ∧
    ∀ b l, nth bx b = some l → ∃ l', nth (encB a) b = some l' ∧ ∀ C, RL x l C → RL x l' C
  ln : ∀ a a' : α, (encB a).length = (encB a').length ∧ ∀ b l, nth (encB a) b = some l → ∃ l', nth (encB a') b = some l' ∧ l'.length = l.length
  dl : ∀ sl bx a, dec sl bx = some a → bx.length = (encB a).length ∧ ∀ b l, nth bx b = some l → ∃ l', nth (encB a) b = some l' ∧ l'.length = l.length
def LC.base {β : Type} (b : BC β) : LC β where
  encS _ := []
  encB := b.enc
  dec _ bx := b.dec bx
  inr := b.inr
  ok := fun sl bx a h x t hf hx => by
    obtain ⟨h1, h2⟩ := b.ok bx a h x hx
    exact ⟨⟨h1, fun i v h => by simp at h⟩, h2⟩
  ln := b.ln
  dl := fun _ bx a h => b.dl bx a h
def LC.slot {α β : Type} (i : Nat) (c : WC α) (r : LC β) : LC (α × β) where
  encS a := (i, .w (c.enc a.1)) :: r.encS a.2
  encB a := r.encB a.2
  dec sl bx := match nth sl i with
    | some (.w y) => match c.dec y with
      | some a => match r.dec sl bx with
        | some b => some (a, b)
        | none => none
      | none => none
    | _ => none
  inr a := c.inr a.1 ∧ r.inr a.2
  ok := fun sl bx a h x t hf hx => by
    split at h
    · rename_i y hy
      split at h
      · rename_i a1 h1
        split at h
        · rename_i b1 h2
          simp only [Option.some.injEq] at h; subst h
          obtain ⟨⟨i2, e2⟩, e3⟩ := r.ok _ _ _ h2 x t hf hx
          obtain ⟨i1, e1⟩ := c.ok _ _ h1 x _ (hf.slot i _ hy)
          refine ⟨⟨⟨i1, i2⟩, fun j v hv => ?_⟩, e3⟩
          rcases List.mem_cons.1 hv with hv | hv
          · simp only [Prod.mk.injEq] at hv
            obtain ⟨rfl, rfl⟩ := hv
            exact e1 x rfl
          · exact e2 j v hv
        · simp at h
      · simp at h
    · simp at h
  ln := fun a a' => r.ln a.2 a'.2
  dl := fun sl bx a h => by
    split at h
    · split at h
      · split at h
        · rename_i h2
          simp only [Option.some.injEq] at h; subst h
          exact r.dl _ _ _ h2
        · simp at h
      · simp at h
    · simp at h
/-- A slot that leads into a box. -/
def LC.ptr {β : Type} (i b o : Nat) (r : LC β) : LC β where
  encS a := (i, .w (.one (.loc b o))) :: r.encS a
  encB := r.encB
  dec sl bx := match nth sl i with
    | some (.w (.one (.loc b' o'))) => match Nat.beq b' b && Nat.beq o' o with
      | true => r.dec sl bx
      | false => none
    | _ => none
  inr := r.inr
  ok := fun sl bx a h x t hf hx => by
    split at h
    · rename_i b' o' hy
      split at h
      · rename_i hb
        simp only [Bool.and_eq_true, Nat.beq_eq] at hb
        obtain ⟨rfl, rfl⟩ := hb
        obtain ⟨⟨i2, e2⟩, e3⟩ := r.ok _ _ _ h x t hf hx
        refine ⟨⟨i2, fun j v hv => ?_⟩, e3⟩
        rcases List.mem_cons.1 hv with hv | hv
        · simp only [Prod.mk.injEq] at hv
          obtain ⟨rfl, rfl⟩ := hv
          exact hf.slot _ _ hy
        · exact e2 j v hv
      · simp at h
    · simp at h
  ln := r.ln
  dl := fun sl bx a h => by
    split at h
    · split at h
      · exact r.dl _ _ _ h
      · simp at h
    · simp at h

def junks : Nat → List V
  | 0 => []
  | n + 1 => .w .junk :: junks n
def fillS (l : List V) : List (Nat × V) → List V
  | [] => l
  | (i, v) :: r => setN (fillS l r) i v
def stateOf {α : Type} (n : Nat) (c : LC α) (a : α) : St := { slots := fillS (junks n) (c.encS a), mem := ⟨c.encB a, []⟩, dirty := [], bd := [], sd := false }
def decN {α : Type} (n : Nat) (c : LC α) (s : St) : Option α :=
  match Nat.beq (len s.slots) n && isNil s.mem.stgs with
  | true => c.dec s.slots s.mem.boxes
  | false => none

theorem junks_len : ∀ n, (junks n).length = n
  | 0 => rfl
  | n + 1 => by simp [junks, junks_len n]
theorem fillS_len (l : List V) : ∀ r, (fillS l r).length = l.length
  | [] => rfl
  | (i, v) :: r => by simp [fillS, setN_eq, fillS_len l r]
theorem fillS_nth {l : List V} : ∀ (r : List (Nat × V)) (i : Nat) (v : V), nth (fillS l r) i = some v → nth l i = some v ∨ (i, v) ∈ r
  | [], i, v, h => .inl h
  | (j, u) :: r, i, v, h => by
    simp only [fillS] at h
    by_cases e : j = i
    · subst e
      have hlt := nth_lt h
      rw [setN_eq] at h hlt
      rw [nth_eq, List.getElem?_set_self (by simpa using hlt)] at h
      simp only [Option.some.injEq] at h; subst h
      exact .inr (by simp)
    · rw [nth_eq, setN_eq, List.getElem?_set_ne e, ← nth_eq] at h
      exact (fillS_nth r i v h).imp id (fun h => by simp [h])
theorem junks_nth : ∀ (n i : Nat) (v : V), nth (junks n) i = some v → v = .w .junk
  | 0, i, v, h => by cases i <;> simp [junks, nth] at h
  | n + 1, 0, v, h => by simp [junks, nth] at h; exact h.symm
  | n + 1, i + 1, v, h => junks_nth n i v h

theorem stateOf_ok {α : Type} {n : Nat} {c : LC α} {x0 x : Ctx} {w0 w : World} {s : St} {act : Act} {a : α} (h : decN n c s = some a) (hr : RelH x0 w0 x s act w) :
    c.inr a ∧ RelH x0 w0 x (stateOf n c a) act w ∧ s.slots.length = n ∧ s.mem.stgs = [] ∧ s.mem.boxes.length = (c.encB a).length ∧
      ∀ b l, nth s.mem.boxes b = some l → ∃ l', nth (c.encB a) b = some l' ∧ l'.length = l.length := by
  unfold decN at h
  split at h
  · rename_i hn
    simp only [Bool.and_eq_true, Nat.beq_eq, len_eq] at hn
    have hst : s.mem.stgs = [] := by cases hs : s.mem.stgs with | nil => rfl | cons _ _ => rw [hs] at hn; simp [isNil] at hn
    have hml := hr.r.m.ml
    rw [len_eq, len_eq] at hml
    have hbox : ∀ b l, nth s.mem.boxes b = some l → ∃ p C T, nth x.M b = some p ∧ w.heap[p]? = some (.cells (List.toArray C) T (0, 0)) ∧ RL x l C := by
      intro b l hl
      have hp : ∃ p, nth x.M b = some p := by
        have := nth_lt hl
        rw [nth_eq]; exact ⟨_, List.getElem?_eq_getElem (by omega)⟩
      obtain ⟨p, hp⟩ := hp
      obtain ⟨C, T, h1, h2⟩ := hr.r.m.box b l p hl hp
      exact ⟨p, C, T, hp, h1, h2⟩
    obtain ⟨⟨h1, h2⟩, h3, h4⟩ := c.ok _ _ _ h x act.tmps hr.r.f (fun b l hl => let ⟨_, C, _, _, _, h⟩ := hbox b l hl; ⟨C, h⟩)
    have hm := hr.r.m
    refine ⟨h1, ⟨⟨⟨?_, ?_⟩, ⟨hm.fresh, hm.fz, ?_, ?_, hm.mown, hm.inj, ?_, ?_, hm.sown, hm.sinj⟩, hr.r.d⟩, hr.e, hr.t⟩, hn.1, hst, h3, ?_⟩
    · simp [stateOf, fillS_len, junks_len, ← hn.1, hr.r.f.size]
    · intro i v hv
      rcases fillS_nth _ _ _ hv with hv | hv
      · rw [junks_nth _ _ _ hv]; trivial
      · exact h2 i v hv
    · show len x.M = len (c.encB a)
      rw [len_eq, len_eq, hml, h3]
    · intro b l p hl hp
      have hl : nth (c.encB a) b = some l := hl
      have hlt := nth_lt hl
      have hex : ∃ l0, nth s.mem.boxes b = some l0 := by rw [nth_eq]; exact ⟨_, List.getElem?_eq_getElem (by omega)⟩
      obtain ⟨l0, hl0⟩ := hex
      obtain ⟨C, T, q1, q2⟩ := hm.box b l0 p hl0 hp
      obtain ⟨l', q3, q4⟩ := h4 b l0 hl0
      have : l' = l := by rw [hl] at q3; simpa using q3.symm
      subst this
      exact ⟨C, T, q1, q4 C q2⟩
    · show len x.S = len ([] : List Stg)
      have := hm.sl
      rw [hst] at this; exact this
    · intro i g s' hg
      have hg : nth ([] : List Stg) i = some g := hg
      cases i <;> simp [nth] at hg
    · intro b l hl
      obtain ⟨p, C, T, q1, q2, q3⟩ := hbox b l hl
      obtain ⟨l', q4, q5⟩ := h4 b l hl
      exact ⟨l', q4, by rw [(q5 C q3).length, q3.length]⟩
  · simp at h

/-- How a round ends. -/
inductive Go1 (α : Type) where
  | cont (a : α)
  | brk (a : α)
  | ret (a : α)
def classify {α : Type} (id n : Nat) (c : LC α) (o : Out) : Option (Go1 α) :=
  match decN n c o.s with
  | none => none
  | some a => match o.k with
    | .normal => some (.cont a)
    | .exit i => match Nat.beq i id with
      | true => some (.brk a)
      | false => none
    | .ret => some (.ret a)
    | .stop => none

def allN : Nat → List Nat
  | 0 => []
  | n + 1 => n :: allN n
def allBD (bd : List (Nat × Nat)) : Nat → List (List A) → List (Nat × Nat)
  | _, [] => bd
  | b, l :: r => allBD (addBD bd b 0 (len l)) (b + 1) r
/-- The state behind the loop. -/
def behind {α : Type} (n : Nat) (c : LC α) (s : St) (a : α) : St :=
  { slots := fillS (junks n) (c.encS a), mem := ⟨c.encB a, []⟩, dirty := joinN s.dirty (allN n), bd := allBD s.bd 0 s.mem.boxes, sd := s.sd }
/-- A loop's oracle: 'res a' tells how it ends (true: by a return) and with what. fl: may it end by a return? -/
def oraOf {α : Type} (fl : Bool) (n : Nat) (c : LC α) (pre : α → Option Bool) (res : α → Bool × α) : Ora := fun s =>
  match decN n c s with
  | none => stopT s
  | some a => chkT (pre a) s (match fl with
    | true => .br (res a).1 (.leaf ⟨.ret, behind n c s (res a).2⟩) (.leaf ⟨.normal, behind n c s (res a).2⟩)
    | false => .leaf ⟨.normal, behind n c s (res a).2⟩)

theorem memN_allN : ∀ n i, memN (allN n) i = true ↔ i < n
  | 0, i => by simp [allN, memN]
  | n + 1, i => by
    simp only [allN, memN, Bool.or_eq_true, Nat.beq_eq, memN_allN n i]; omega
theorem memP_allBD : ∀ (bx : List (List A)) (bd : List (Nat × Nat)) (k b j : Nat), memP (allBD bd k bx) b j = false → memP bd b j = false ∧ ∀ l, k ≤ b → nth bx (b - k) = some l → l.length ≤ j
  | [], bd, k, b, j, h => ⟨h, fun l _ hl => by cases hb : b - k <;> simp [nth] at hl⟩
  | l0 :: r, bd, k, b, j, h => by
    simp only [allBD] at h
    obtain ⟨h1, h2⟩ := memP_allBD r _ (k + 1) b j h
    rw [memP_addBD, Bool.or_eq_false_iff] at h1
    refine ⟨h1.1, fun l hk hl => ?_⟩
    by_cases e : b = k
    · subst e
      simp only [Nat.sub_self, nth, Option.some.injEq] at hl
      subst hl
      have := h1.2
      simp [len_eq] at this; omega
    · have e2 : b - k = (b - (k + 1)) + 1 := by omega
      rw [e2] at hl
      exact h2 l (by omega) hl

/-- An environment with loops. -/
def lookL (l : List (Nat × Ora)) (i : Nat) : Option Ora :=
  match l with
  | [] => none
  | (j, f) :: r => match Nat.beq j i with
    | true => some f
    | false => lookL r i
def envL (P : Program) (l : List (FuncId × Entry)) (ol : List (Nat × Ora)) (named : Nat) : Env := ⟨P, look l, lookL ol, named, 6⟩
theorem envL_ok {P : Program} {l : List (FuncId × Entry)} (h : AllOk P l) (ol : List (Nat × Ora)) (n : Nat) : EnvOk (envL P l ol n) := look_ok h
/-- The loops of a piece of code: their blocks' numbers and their bodies. -/
def loopsIn : Code → List (Nat × Code)
  | .seq a b => loopsIn a ++ loopsIn b
  | .cond _ a b => loopsIn a ++ loopsIn b
  | .block id c => match c with
    | .loop b => (id, b) :: loopsIn b
    | c => loopsIn c
  | _ => []
/-- The body of the loop in block number id. -/
def bodyIn (c : Option Code) (id : Nat) : Code :=
  match c with
  | none => .skip
  | some c => find (loopsIn c)
where
  find : List (Nat × Code) → Code
    | [] => .skip
    | (j, b) :: r => match Nat.beq j id with
      | true => b
      | false => find r
theorem loopsOk_of {E : Env} : ∀ c : Code, (∀ p ∈ loopsIn c, ∀ f, E.loops p.1 = some f → OraOk E (.block p.1 (.loop p.2)) f) → LoopsOk E c
  | .seq a b, h => ⟨loopsOk_of a fun p hp => h p (by simp [loopsIn, hp]), loopsOk_of b fun p hp => h p (by simp [loopsIn, hp])⟩
  | .cond _ a b, h => ⟨loopsOk_of a fun p hp => h p (by simp [loopsIn, hp]), loopsOk_of b fun p hp => h p (by simp [loopsIn, hp])⟩
  | .block id c, h => by
    unfold LoopsOk
    split
    · rename_i b
      split
      · rename_i f hf
        exact h (id, b) (by simp [loopsIn]) f hf
      · exact loopsOk_of b fun p hp => h p (by simp [loopsIn, hp])
    · rename_i hc
      refine loopsOk_of c fun p hp => h p ?_
      cases c <;> first | exact hp | exact absurd rfl (hc _)
  | .skip, _ | .region .., _ | .loop _, _ | .rangeFunc .., _ | .exit _, _ | .scope _, _ | .label _, _ | .goto _, _ | .ret, _ | .refuse _, _ => trivial

theorem decN_shape {α : Type} {n : Nat} {c : LC α} {s : St} {a : α} (h : decN n c s = some a) : s.slots.length = n ∧ s.mem.stgs = [] ∧ s.mem.boxes.length = (c.encB a).length ∧
    ∀ b l, nth s.mem.boxes b = some l → ∃ l', nth (c.encB a) b = some l' ∧ l'.length = l.length := by
  unfold decN at h
  split at h
  · rename_i hn
    simp only [Bool.and_eq_true, Nat.beq_eq, len_eq] at hn
    exact ⟨hn.1, by cases hs : s.mem.stgs with | nil => rfl | cons _ _ => rw [hs] at hn; simp [isNil] at hn, c.dl _ _ _ h⟩
  · simp at h
theorem behind_keep {α : Type} {n : Nat} {c : LC α} {s : St} {a : α} (h : decN n c s = some a) (a' : α) : Keep s (behind n c s a') := by
  obtain ⟨h1, h2, h3, h4⟩ := decN_shape h
  obtain ⟨h5, h6⟩ := c.ln a a'
  refine ⟨by simp [behind, fillS_len, junks_len, h1], fun t ht => ?_, by simp [behind, h3, h5], fun b l hl => ?_, fun hs => ⟨hs, by simp [behind, h2]⟩⟩
  · simp only [behind, memN_joinN, Bool.or_eq_false_iff] at ht
    have hnt : ¬ t < n := by rw [← memN_allN n t, ht.2]; simp
    refine ⟨ht.1, ?_⟩
    simp only [behind, nth_eq]
    rw [List.getElem?_eq_none (by simp [fillS_len, junks_len]; omega), List.getElem?_eq_none (by omega)]
  · obtain ⟨l1, q1, q2⟩ := h4 b l hl
    obtain ⟨l2, q3, q4⟩ := h6 b l1 q1
    refine ⟨l2, q3, q4.trans q2, fun j hj => ?_⟩
    obtain ⟨e1, e2⟩ := memP_allBD _ _ _ _ _ hj
    refine ⟨e1, ?_⟩
    have := e2 l (Nat.zero_le _) (by simpa using hl)
    rw [nth_eq, nth_eq, List.getElem?_eq_none (by omega), List.getElem?_eq_none (by omega)]

theorem loop_ok {E : Env} (hE : EnvOk E) {id : Nat} {b : Code} (hl : LoopsOk E b) {α : Type} {n : Nat} {c : LC α} {pre : α → Option Bool} {res : α → Bool × α} {fl : Bool} (hfl : fl = true ∨ ∀ a, (res a).1 = false) (Inv : α → Prop) (m : α → Nat)
    (hpre : ∀ a, c.inr a → pre a ≠ some false → Inv a)
    (h : ∀ a, c.inr a → Inv a → match ((evCode E b (stateOf n c a)).map (classify id n c)).val with
      | some (.cont a') => Inv a' ∧ m a' < m a ∧ res a' = res a
      | some (.brk a') => res a = (false, a')
      | some (.ret a') => res a = (true, a')
      | none => False) : OraOk E (.block id (.loop b)) (oraOf fl n c pre res) := by
  refine ⟨fun s => ?_, fun x0 w0 x s act w Q hr hh => ?_⟩
  · unfold oraOf
    split
    · exact stop_keep s
    · rename_i a ha
      refine chkT_keep ?_
      split
      · exact ⟨behind_keep ha _, behind_keep ha _⟩
      · exact behind_keep ha _
  · unfold oraOf at hh
    split at hh
    · exact (Hold.stop hr hh).elim
    · rename_i a ha
      obtain ⟨hc, hh⟩ := Hold.chk hr hh
      obtain ⟨hin, hr', _⟩ := stateOf_ok ha hr
      have hinv := hpre a hin hc
      have hx0 : ∀ (x' : Ctx) (act' : Act) (w' : World), RelH x0 w0 x' (stateOf n c (res a).2) act' w' → ExtM x x' → (res a).1 = true → Q .ret act' w' := by
        intro x' act' w' h1 h2 h3
        have hh : fl = true → _ := fun e => by rw [e] at hh; exact hh
        rcases hfl with hfl | hfl
        · have := hh hfl
          simp only [RT.val, h3, cond_true] at this
          exact this x' act' w' (h1.ofMem rfl rfl) h2
        · rw [hfl] at h3; simp at h3
      have hx1 : ∀ (x' : Ctx) (act' : Act) (w' : World), RelH x0 w0 x' (stateOf n c (res a).2) act' w' → ExtM x x' → (res a).1 = false → Q .normal act' w' := by
        intro x' act' w' h1 h2 h3
        cases fl with
        | true =>
          simp only [RT.val, h3, cond_false] at hh
          exact hh x' act' w' (h1.ofMem rfl rfl) h2
        | false => exact hh x' act' w' (h1.ofMem rfl rfl) h2
      refine wp_block (wp_loop_ghost (fun k act' w' => ∃ a' x', m a' = k ∧ c.inr a' ∧ Inv a' ∧ res a' = res a ∧ RelH x0 w0 x' (stateOf n c a') act' w' ∧ ExtM x x') (m a) ⟨a, x, rfl, hin, hinv, rfl, hr', ExtM.refl x⟩ ?_)
      rintro k act' w' ⟨a', x', rfl, hin', hinv', hres, hr2, hx2⟩
      have h' := h a' hin' hinv'
      rw [RT.val_map] at h'
      refine evCode_ok hE b hl x' _ act' w' _ hr2 fun x3 a3 w3 hr3 hx3 => ?_
      generalize (evCode E b (stateOf n c a')).val = o at *
      unfold classify at h'
      split at h'
      · rename_i a4 hcl
        split at hcl
        · simp at hcl
        · rename_i a5 ha5
          obtain ⟨i5, r5, _⟩ := stateOf_ok ha5 hr3
          split at hcl
          · rename_i hk
            simp only [Option.some.injEq, Go1.cont.injEq] at hcl; subst hcl
            rw [hk]
            exact ⟨m a5, h'.2.1, a5, x3, rfl, i5, h'.1, h'.2.2.trans hres, r5, hx2.trans hx3⟩
          · split at hcl <;> simp at hcl
          · simp at hcl
          · simp at hcl
      · rename_i a4 hcl
        split at hcl
        · simp at hcl
        · rename_i a5 ha5
          obtain ⟨i5, r5, _⟩ := stateOf_ok ha5 hr3
          split at hcl
          · simp at hcl
          · rename_i i hk
            split at hcl
            · rename_i hi
              simp only [Nat.beq_eq] at hi; subst hi
              simp only [Option.some.injEq, Go1.brk.injEq] at hcl; subst hcl
              rw [hk]
              rw [hres] at h'
              have := hx1 x3 a3 w3 (by rw [h']; exact r5) (hx2.trans hx3) (by rw [h'])
              simpa [QK, Exit.then, Exit.inBlock] using this
            · simp at hcl
          · simp at hcl
          · simp at hcl
      · rename_i a4 hcl
        split at hcl
        · simp at hcl
        · rename_i a5 ha5
          obtain ⟨i5, r5, _⟩ := stateOf_ok ha5 hr3
          split at hcl
          · simp at hcl
          · split at hcl <;> simp at hcl
          · rename_i hk
            simp only [Option.some.injEq, Go1.ret.injEq] at hcl; subst hcl
            rw [hk]
            rw [hres] at h'
            exact hx0 x3 a3 w3 (by rw [h']; exact r5) (hx2.trans hx3) (by rw [h'])
          · simp at hcl
      · exact h'.elim

section
variable {P : Program} {l : List (FuncId × Entry)} {n : Nat} {f : FuncId} {fn : Func}
theorem pureL_part (n : Nat) {ol : List (Nat × Ora)} (hl : AllOk P l) (hf : P.funcs[f]? = some fn) {c : Code} (hb : fn.body = some c) (hcall : Callable P f) (hloops : LoopsOk (envL P l ol n) c)
    {α β : Type} {d : AC α} {r : RC β} {pre : α → Option Bool} {t : α → RT (Option β)} {F : α → β} (h : ∀ a, evVal (envL P l ol n) fn (d.enc a) = (t a).map (fun b => b.map r.enc))
    (hF : ∀ a, d.inr a → pre a ≠ some false → (t a).val = some (F a)) : EntryOk P f (pureE d r pre F) :=
  pureE_part (E := envL P l ol n) (envL_ok hl ol n) hf hb hloops hcall h hF
theorem pureL_tree (n : Nat) {ol : List (Nat × Ora)} (hl : AllOk P l) (hf : P.funcs[f]? = some fn) {c : Code} (hb : fn.body = some c) (hcall : Callable P f) (hloops : LoopsOk (envL P l ol n) c)
    {α β : Type} {d : AC α} {r : RC β} {t : α → RT β} (h : ∀ a, evVal (envL P l ol n) fn (d.enc a) = (t a).map (fun b => some (r.enc b))) :
    EntryOk P f (pureE d r (fun _ => none) (fun a => (t a).val)) :=
  pureE_tree (E := envL P l ol n) (envL_ok hl ol n) hf hb hloops hcall h
end
end Go.Sx
