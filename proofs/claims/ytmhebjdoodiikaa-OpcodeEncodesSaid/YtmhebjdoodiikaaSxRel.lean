/-
  What an abstract state of the symbolic executor says of a frame and a world; how that is carried on. Conditions: none (definitions and lemmas).
-/
import Derived.Test.YtmhebjdoodiikaaSxCode
namespace Go.Sx

def inR (k : IntKind) (n : Int) : Prop := k.min ≤ n ∧ n ≤ k.max

theorem inR_wrap (k : IntKind) (n : Int) : inR k (k.wrap n) := by
  cases k <;> simp [inR, IntKind.wrap, IntKind.min, IntKind.max, IntKind.signed, IntKind.bits] <;> (try split) <;> omega

def atomic : Value → Prop
  | .agg _ | .tuple _ => False
  | _ => True

/-- A slice of the call's own: the cells an element has, the block and how many elements it bears, the length. -/
structure SI where
  e : Nat
  blk : Option (Nat × Nat)
  n : Nat

/-- own: the blocks that may be written; M: the boxes' blocks; S: the slices; fz: the cells that never change any more. -/
structure Ctx where
  own : Nat → Prop
  M : List Nat
  S : List SI
  fz : Nat → Nat → Option Value

def Ctx.bare (x : Ctx) : Ctx := { x with M := [], S := [] }

def sqLen (hb : Bool) (n : Nat) (ys : List (List A)) : Nat := match hb with
  | true => n + len ys
  | false => len ys
def sqAt (hb : Bool) (n : Nat) (get : Nat → List A) (ys : List (List A)) (i : Nat) : List A := match hb with
  | true => if i < n then get i else (nth ys (i - n)).getD []
  | false => (nth ys i).getD []

inductive RA : Ctx → A → Value → Prop
  | bool (x : Ctx) (l b : Bool) : RA x (.bool l b) (.bool b)
  | int (x : Ctx) (l : Bool) (k : IntKind) (n : Int) (h : inR k n) : RA x (.int l k n) (.int k n)
  | str (x : Ctx) (s : ByteArray) : RA x (.str s) (.string s)
  | loc (x : Ctx) (b o p : Nat) (h : nth x.M b = some p) : RA x (.loc b o) (.pointer (some ⟨p, o, none⟩))
  | nilp (x : Ctx) : RA x .nilp (.pointer none)
  | nilsl (x : Ctx) : RA x .nilsl (.slice none 0 0)
  | lst0 (x : Ctx) (e : Nat) (hb : Bool) (n : Nat) (get : Nat → List A) (ys : List (List A)) (a : Option Addr) (cap : Nat) (h : sqLen hb n ys = 0) : RA x (.lst e hb n get ys) (.slice a 0 cap)
  | lst (x : Ctx) (e : Nat) (hb : Bool) (n : Nat) (get : Nat → List A) (ys : List (List A)) (p o cap : Nat) (c : Nat → Nat → Value)
      (hl : ∀ i, i < sqLen hb n ys → len (sqAt hb n get ys i) = e)
      (hf : ∀ i j a, i < sqLen hb n ys → nth (sqAt hb n get ys i) j = some a → x.fz p (o + i * e + j) = some (c i j))
      (hr : ∀ i j a, i < sqLen hb n ys → nth (sqAt hb n get ys i) j = some a → RA x.bare a (c i j)) :
      RA x (.lst e hb n get ys) (.slice (some ⟨p, o, none⟩) (sqLen hb n ys) cap)
  | tip0 (x : Ctx) (h : Nat) (s : SI) (hs : nth x.S h = some s) (hb : s.blk = none) (hn : s.n = 0) : RA x (.tip h) (.slice none 0 0)
  | tip (x : Ctx) (h : Nat) (s : SI) (p cap : Nat) (hs : nth x.S h = some s) (hb : s.blk = some (p, cap)) : RA x (.tip h) (.slice (some ⟨p, 0, none⟩) s.n cap)
  | fp (x : Ctx) (l : List A) (p o : Nat) (c : Nat → Value) (hf : ∀ j a, nth l j = some a → x.fz p (o + j) = some (c j))
      (hr : ∀ j a, nth l j = some a → RA x.bare a (c j)) : RA x (.fp l) (.pointer (some ⟨p, o, none⟩))
  | sp (x : Ctx) (h : Nat) (l : Bool) (i o : Nat) (s : SI) (p cap : Nat) (hs : nth x.S h = some s) (hb : s.blk = some (p, cap)) (hi : i < s.n) :
      RA x (.sp h l i o) (.pointer (some ⟨p, i * s.e + o, none⟩))
  | clo (x : Ctx) (f : FuncId) (caps : List A) (cs : List Value) (c : Nat → Value) (hl : len cs = len caps) (hc : ∀ j a, nth caps j = some a → nth cs j = some (c j))
      (hr : ∀ j a, nth caps j = some a → RA x a (c j)) : RA x (.clo f caps) (.func (.func f) #[] cs.toArray)
  | raw (x : Ctx) (v : Value) (h : atomic v) : RA x (.raw v) v
  | junk (x : Ctx) (v : Value) (h : atomic v) : RA x .junk v

def RL (x : Ctx) : List A → List Value → Prop
  | [], [] => True
  | a :: l, v :: r => RA x a v ∧ RL x l r
  | _, _ => False
def RW (x : Ctx) : W → Value → Prop
  | .one a, v => RA x a v
  | .agg l, v => ∃ C : List Value, v = .agg C.toArray ∧ RL x l C
  | .junk, _ => True
def RWs (x : Ctx) : List W → List Value → Prop
  | [], [] => True
  | a :: l, v :: r => RW x a v ∧ RWs x l r
  | _, _ => False
def RV (x : Ctx) : V → Value → Prop
  | .w a, v => RW x a v
  | .tup l, v => ∃ C : List Value, v = .tuple C.toArray ∧ RWs x l C
def RVs (x : Ctx) : List V → List Value → Prop
  | [], [] => True
  | a :: l, v :: r => RV x a v ∧ RVs x l r
  | _, _ => False

theorem RA.atomic {x : Ctx} {a : A} {v : Value} (h : RA x a v) : atomic v := by
  cases h <;> first | trivial | assumption

structure StgOk (x : Ctx) (g : Stg) (s : SI) (w : World) : Prop where
  e : s.e = g.e
  n : s.n = sqLen g.hb g.n g.ys
  nil : s.blk = none → s.n = 0
  row : ∀ p cap, s.blk = some (p, cap) → ∃ C : List Value, w.heap[p]? = some (.cells C.toArray g.T (0, 0)) ∧ len C = cap * g.e ∧ s.n ≤ cap ∧
    (∀ i, i < s.n → len (sqAt g.hb g.n g.get g.ys i) = g.e) ∧
    (∀ i j a, i < s.n → nth (sqAt g.hb g.n g.get g.ys i) j = some a → ∃ v, nth C (i * g.e + j) = some v ∧ RA x.bare a v) ∧
    (g.fzn = true → ∀ o, (o < s.n * g.e → x.fz p o = nth C o) ∧ (s.n * g.e ≤ o → x.fz p o = none)) ∧ (g.fzn = false → ∀ o, x.fz p o = none)

structure MemOk (x : Ctx) (m : Mem) (w : World) : Prop where
  fresh : ∀ k, w.heap.size ≤ k → x.own k
  fz : ∀ b o v, x.fz b o = some v → w.cell? ⟨b, o, none⟩ = some v
  ml : len x.M = len m.boxes
  box : ∀ b l p, nth m.boxes b = some l → nth x.M b = some p → ∃ C T, w.heap[p]? = some (.cells (List.toArray C) T (0, 0)) ∧ RL x l C
  mown : ∀ b p, nth x.M b = some p → x.own p ∧ ∀ o, x.fz p o = none
  inj : ∀ b b' p, nth x.M b = some p → nth x.M b' = some p → b = b'
  sl : len x.S = len m.stgs
  stg : ∀ h g s, nth m.stgs h = some g → nth x.S h = some s → StgOk x g s w
  sown : ∀ h s p cap, nth x.S h = some s → s.blk = some (p, cap) → x.own p ∧ ∀ b, nth x.M b ≠ some p
  sinj : ∀ h h' s s' p cap cap', nth x.S h = some s → nth x.S h' = some s' → s.blk = some (p, cap) → s'.blk = some (p, cap') → h = h'

structure Step (x : Ctx) (w w' : World) : Prop where
  os : w'.os = w.os
  tape : w'.tape = w.tape
  output : w'.output = w.output
  size : w.heap.size ≤ w'.heap.size
  block : ∀ k, ¬ x.own k → w'.heap[k]? = w.heap[k]?

theorem Step.refl (x : Ctx) (w : World) : Step x w w := ⟨rfl, rfl, rfl, Nat.le_refl _, fun _ _ => rfl⟩

/-- x' is x with more boxes and slices, but for the slices on the list ts. -/
structure Ext (ts : List Nat) (x x' : Ctx) : Prop where
  own : x'.own = x.own
  M : ∀ b p, nth x.M b = some p → nth x'.M b = some p
  S : ∀ h s, nth x.S h = some s → memN ts h = false → nth x'.S h = some s
  fz : ∀ b o v, x.fz b o = some v → x'.fz b o = some v
  new : ∀ b o v, x'.fz b o = some v → x.fz b o = some v ∨ x.own b

theorem Ext.refl (x : Ctx) : Ext [] x x := ⟨rfl, fun _ _ h => h, fun _ _ h _ => h, fun _ _ _ h => h, fun _ _ _ h => .inl h⟩
theorem Ext.trans {x y z : Ctx} (h : Ext [] x y) (k : Ext [] y z) : Ext [] x z :=
  ⟨k.own.trans h.own, fun _ _ e => k.M _ _ (h.M _ _ e), fun _ _ e t => k.S _ _ (h.S _ _ e t) t, fun _ _ _ e => k.fz _ _ _ (h.fz _ _ _ e),
    fun _ _ _ e => (k.new _ _ _ e).elim (fun e => h.new _ _ _ e) (fun o => .inr (h.own ▸ o))⟩
theorem Step.trans {x y : Ctx} {w w' w'' : World} (h : Step x w w') (k : Step y w' w'') (o : y.own = x.own) : Step x w w'' :=
  ⟨k.os.trans h.os, k.tape.trans h.tape, k.output.trans h.output, Nat.le_trans h.size k.size, fun i hi => (k.block i (by rw [o]; exact hi)).trans (h.block i hi)⟩

theorem Ext.bare {ts : List Nat} {x x' : Ctx} (h : Ext ts x x') : Ext [] x.bare x'.bare :=
  ⟨h.own, fun b p e => by cases b <;> simp [Ctx.bare, nth] at e, fun b p e => by cases b <;> simp [Ctx.bare, nth] at e, h.fz, h.new⟩

theorem RA.mono {x : Ctx} {a : A} {v : Value} (h : RA x a v) : ∀ {x' : Ctx}, Ext [] x x' → RA x' a v := by
  induction h with
  | bool x l b => intro x' _; exact .bool _ _ _
  | int x l k n h => intro x' _; exact .int _ _ _ _ h
  | str x s => intro x' _; exact .str _ _
  | loc x b o p h => intro x' e; exact .loc _ _ _ _ (e.M _ _ h)
  | nilp x => intro x' _; exact .nilp _
  | nilsl x => intro x' _; exact .nilsl _
  | lst0 x e hb n get ys a cap h => intro x' _; exact .lst0 _ _ _ _ _ _ _ _ h
  | lst x e hb n get ys p o cap c hl hf hr ih =>
    intro x' ex
    exact .lst _ _ _ _ _ _ _ _ _ c hl (fun i j a h1 h2 => ex.fz _ _ _ (hf i j a h1 h2)) (fun i j a h1 h2 => ih i j a h1 h2 ex.bare)
  | tip0 x h s hs hb hn => intro x' ex; exact .tip0 _ _ s (ex.S _ _ hs rfl) hb hn
  | tip x h s p cap hs hb => intro x' ex; exact .tip _ _ s _ _ (ex.S _ _ hs rfl) hb
  | fp x l p o c hf hr ih => intro x' ex; exact .fp _ _ _ _ c (fun j a h => ex.fz _ _ _ (hf j a h)) (fun j a h => ih j a h ex.bare)
  | sp x h l i o s p cap hs hb hi => intro x' ex; exact .sp _ _ _ _ _ s _ _ (ex.S _ _ hs rfl) hb hi
  | clo x f caps cs c hl hc hr ih => intro x' ex; exact .clo _ _ _ _ c hl hc (fun j a h => ih j a h ex)
  | raw x v h => intro x' _; exact .raw _ _ h
  | junk x v h => intro x' _; exact .junk _ _ h

theorem RL.mono {x x' : Ctx} (e : Ext [] x x') : ∀ {l : List A} {vs : List Value}, RL x l vs → RL x' l vs
  | [], [], _ => trivial
  | _ :: _, _ :: _, h => ⟨h.1.mono e, RL.mono e h.2⟩
  | [], _ :: _, h => h.elim
  | _ :: _, [], h => h.elim
theorem RW.mono {x x' : Ctx} (e : Ext [] x x') {a : W} {v : Value} (h : RW x a v) : RW x' a v := by
  cases a with
  | one a => exact RA.mono h e
  | agg l => obtain ⟨C, hv, hl⟩ := h; exact ⟨C, hv, hl.mono e⟩
  | junk => trivial
theorem RWs.mono {x x' : Ctx} (e : Ext [] x x') : ∀ {l : List W} {vs : List Value}, RWs x l vs → RWs x' l vs
  | [], [], _ => trivial
  | _ :: _, _ :: _, h => ⟨h.1.mono e, RWs.mono e h.2⟩
  | [], _ :: _, h => h.elim
  | _ :: _, [], h => h.elim
theorem RV.mono {x x' : Ctx} (e : Ext [] x x') {a : V} {v : Value} (h : RV x a v) : RV x' a v := by
  cases a with
  | w a => exact RW.mono e h
  | tup l => obtain ⟨C, hv, hl⟩ := h; exact ⟨C, hv, hl.mono e⟩
theorem RVs.mono {x x' : Ctx} (e : Ext [] x x') : ∀ {l : List V} {vs : List Value}, RVs x l vs → RVs x' l vs
  | [], [], _ => trivial
  | _ :: _, _ :: _, h => ⟨h.1.mono e, RVs.mono e h.2⟩
  | [], _ :: _, h => h.elim
  | _ :: _, [], h => h.elim

/-! ### lists -/
theorem len_eq {α : Type} : ∀ l : List α, len l = l.length
  | [] => rfl
  | _ :: l => by simp [len, len_eq l]
theorem nth_eq {α : Type} : ∀ (l : List α) (n : Nat), nth l n = l[n]?
  | [], _ => by simp [nth]
  | _ :: _, 0 => by simp [nth]
  | _ :: l, n + 1 => by simp [nth, nth_eq l n]
theorem setN_eq {α : Type} : ∀ (l : List α) (n : Nat) (x : α), setN l n x = l.set n x
  | [], _, _ => by simp [setN]
  | _ :: _, 0, _ => by simp [setN]
  | _ :: l, n + 1, x => by simp [setN, setN_eq l n]
theorem dropN_eq {α : Type} : ∀ (n : Nat) (l : List α), dropN n l = l.drop n
  | 0, l => by simp [dropN]
  | _ + 1, [] => by simp [dropN]
  | n + 1, _ :: l => by simp [dropN, dropN_eq n l]
theorem firstN_eq {α : Type} : ∀ (n : Nat) (l : List α), firstN n l = l.take n
  | 0, l => by simp [firstN]
  | _ + 1, [] => by simp [firstN]
  | n + 1, _ :: l => by simp [firstN, firstN_eq n l]
theorem takeN_some {α : Type} : ∀ (n : Nat) (l r : List α), takeN n l = some r → r = l.take n ∧ n ≤ l.length
  | 0, l, r, h => by simp [takeN] at h; simp [h]
  | _ + 1, [], r, h => by simp [takeN] at h
  | n + 1, a :: l, r, h => by
    simp only [takeN] at h
    split at h
    · rename_i r' e
      obtain ⟨h1, h2⟩ := takeN_some n l r' e
      simp only [Option.some.injEq] at h
      subst h
      simp [h1]; omega
    · simp at h
theorem memN_iff : ∀ (l : List Nat) (n : Nat), memN l n = true ↔ n ∈ l
  | [], n => by simp [memN]
  | a :: l, n => by
    have h := memN_iff l n
    simp only [memN, Bool.or_eq_true, h, List.mem_cons, Nat.beq_eq]
    exact ⟨fun h => h.imp Eq.symm id, fun h => h.imp Eq.symm id⟩

theorem RL.length {x : Ctx} : ∀ {l : List A} {vs : List Value}, RL x l vs → l.length = vs.length
  | [], [], _ => rfl
  | _ :: l, _ :: r, h => by have := RL.length (l := l) (vs := r) h.2; simp only [List.length_cons, this]
  | [], _ :: _, h => h.elim
  | _ :: _, [], h => h.elim
theorem RL.nth {x : Ctx} : ∀ {l : List A} {vs : List Value}, RL x l vs → ∀ (j : Nat) (a : A), nth l j = some a → ∃ v, vs[j]? = some v ∧ RA x a v
  | [], [], _, j, a, e => by simp [Sx.nth] at e
  | b :: l, v :: r, h, 0, a, e => by simp [Sx.nth] at e; subst e; exact ⟨v, by simp, h.1⟩
  | b :: l, v :: r, h, j + 1, a, e => by simp only [Sx.nth] at e; simpa using RL.nth h.2 j a e
  | [], _ :: _, h, _, _, _ => h.elim
  | _ :: _, [], h, _, _, _ => h.elim
theorem RL.of_nth {x : Ctx} : ∀ {l : List A} {vs : List Value}, l.length = vs.length → (∀ (j : Nat) (a : A), Sx.nth l j = some a → ∃ v, vs[j]? = some v ∧ RA x a v) → RL x l vs
  | [], [], _, _ => trivial
  | [], _ :: _, h, _ => by simp at h
  | _ :: _, [], h, _ => by simp at h
  | a :: l, v :: r, h, k => by
    refine ⟨?_, RL.of_nth (by simpa using h) fun j b e => by simpa using k (j + 1) b e⟩
    obtain ⟨u, h1, h2⟩ := k 0 a rfl
    simp at h1; subst h1; exact h2
theorem RL.drop {x : Ctx} {l : List A} {vs : List Value} (h : RL x l vs) (n : Nat) : RL x (l.drop n) (vs.drop n) := by
  induction n generalizing l vs with
  | zero => simpa using h
  | succ n ih =>
    match l, vs, h with
    | [], [], _ => trivial
    | _ :: _, _ :: _, h => simpa using ih h.2
theorem RL.take {x : Ctx} {l : List A} {vs : List Value} (h : RL x l vs) (n : Nat) : RL x (l.take n) (vs.take n) := by
  induction n generalizing l vs with
  | zero => trivial
  | succ n ih =>
    match l, vs, h with
    | [], [], _ => trivial
    | _ :: _, _ :: _, h => simpa using ⟨h.1, ih h.2⟩
theorem RL.set {x : Ctx} {l : List A} {vs : List Value} (h : RL x l vs) (n : Nat) {a : A} {v : Value} (ha : RA x a v) : RL x (l.set n a) (vs.set n v) := by
  induction n generalizing l vs with
  | zero =>
    match l, vs, h with
    | [], [], _ => trivial
    | _ :: _, _ :: _, h => exact ⟨ha, h.2⟩
  | succ n ih =>
    match l, vs, h with
    | [], [], _ => trivial
    | _ :: _, _ :: _, h => simpa using ⟨h.1, ih h.2⟩
theorem RL.append {x : Ctx} : ∀ {l l' : List A} {vs vs' : List Value}, RL x l vs → RL x l' vs' → RL x (l ++ l') (vs ++ vs')
  | [], _, [], _, _, h' => by simpa using h'
  | _ :: _, _, _ :: _, _, h, h' => ⟨h.1, RL.append h.2 h'⟩
  | [], _, _ :: _, _, h, _ => h.elim
  | _ :: _, _, [], _, h, _ => h.elim

/-! ### the frame -/
structure RF (x : Ctx) (sl : List V) (t : Array Value) : Prop where
  size : sl.length = t.size
  slot : ∀ (i : Nat) (v : V), nth sl i = some v → RV x v (t.getD i undef)

theorem RF.mono {x x' : Ctx} {sl : List V} {t : Array Value} (h : RF x sl t) (e : Ext [] x x') : RF x' sl t := ⟨h.size, fun i v hv => (h.slot i v hv).mono e⟩

structure Rel (x : Ctx) (s : St) (a : Act) (w : World) : Prop where
  f : RF x s.slots a.tmps
  m : MemOk x s.mem w
  d : a.defers = []

theorem RF.set {x : Ctx} {sl : List V} {t : Array Value} (h : RF x sl t) (d : Nat) {v : V} {u : Value} (hv : RV x v u) : RF x (setN sl d v) (t.setIfInBounds d u) := by
  refine ⟨by simp [setN_eq, h.size], fun i v' e => ?_⟩
  rw [setN_eq, nth_eq] at e
  by_cases hd : d = i
  · subst hd
    have hlt : d < sl.length := by
      rcases Nat.lt_or_ge d sl.length with h' | h'
      · exact h'
      · rw [List.set_eq_of_length_le h'] at e; rw [List.getElem?_eq_none h'] at e; simp at e
    have hlt' : d < t.size := h.size ▸ hlt
    rw [List.getElem?_set_self hlt] at e
    simp only [Option.some.injEq] at e
    subst e
    simpa [Array.getD, hlt'] using hv
  · rw [List.getElem?_set_ne hd] at e
    have := h.slot i v' (by rw [nth_eq]; exact e)
    have h2 : (t.setIfInBounds d u).getD i undef = t.getD i undef := by
      simp [Array.getD_eq_getD_getElem?, hd]
    rw [h2]; exact this

end Go.Sx
