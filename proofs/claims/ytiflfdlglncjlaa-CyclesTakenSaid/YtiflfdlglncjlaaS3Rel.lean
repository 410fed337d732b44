/-
  What an abstract state of the symbolic executor says of a frame and a world; how that is carried on. Conditions: none (definitions and lemmas).
-/
import Derived.Test.YtiflfdlglncjlaaS3Code
set_option linter.unusedSimpArgs false
set_option linter.unusedVariables false
namespace Go.S3

def inR (k : IntKind) (n : Int) : Prop := k.min ≤ n ∧ n ≤ k.max

theorem inR_wrap (k : IntKind) (n : Int) : inR k (k.wrap n) := by
  cases k <;> simp [inR, IntKind.wrap, IntKind.min, IntKind.max, IntKind.signed, IntKind.bits] <;> (try split) <;> omega

def atomic : Value → Prop
  | .agg _ | .tuple _ => False
  | _ => True

/-- A slice of the call's own: the block and how many elements it bears (without a block: where it points), the length, the cells an element has, how often it has grown, how many of its cells are frozen. -/
structure SI where
  blk : Option (Nat × Nat)
  na : Option Addr
  n : Nat
  w : Nat
  ver : Nat
  fc : Nat

/-- own: the blocks that may be written; M: the boxes' blocks; S: the slices; fz: the cells that never change any more. -/
structure Ctx where
  own : Nat → Prop
  M : List Nat
  S : List SI
  fz : Nat → Nat → Option Value

def Ctx.bare (x : Ctx) : Ctx := { x with M := [], S := [] }

/-- The element number i. -/
def elN (r : R) (l : List r.den) (i : Nat) : List A := r.enc (l.getD i r.dflt)

def tipVal (s : SI) : Value := match s.blk with
  | none => .slice s.na 0 0
  | some (p, cap) => .slice (some ⟨p, 0, none⟩) s.n cap

inductive RA : Ctx → A → Value → Prop
  | bool (x : Ctx) (l b : Bool) : RA x (.bool l b) (.bool b)
  | int (x : Ctx) (l : Bool) (k : IntKind) (n : Int) (h : inR k n) : RA x (.int l k n) (.int k n)
  | str (x : Ctx) (s : ByteArray) : RA x (.str s) (.string s)
  | loc (x : Ctx) (b o p : Nat) (h : nth x.M b = some p) : RA x (.loc b o) (.pointer (some ⟨p, o, none⟩))
  | nilp (x : Ctx) : RA x .nilp (.pointer none)
  | nilsl (x : Ctx) : RA x .nilsl (.slice none 0 0)
  | lst0 (x : Ctx) (r : R) (lit full nn : Bool) (l : List r.den) (a : Option Addr) (cap : Nat) (h : l = []) (hf : full = true → cap = 0) (hn : nn = true → a.isSome = true) : RA x (.lst r lit full nn l) (.slice a 0 cap)
  | lst (x : Ctx) (r : R) (lit full nn : Bool) (l : List r.den) (p o cap : Nat) (c : Nat → Nat → Value) (h : l ≠ []) (hf : full = true → cap = l.length) (hcap : l.length ≤ cap) (hml : l.length ≤ maxLen)
      (hz : ∀ i j a, i < l.length → nth (elN r l i) j = some a → x.fz p (o + i * r.wid + j) = some (c i j))
      (hr : ∀ i j a, i < l.length → nth (elN r l i) j = some a → RA x.bare a (c i j)) :
      RA x (.lst r lit full nn l) (.slice (some ⟨p, o, none⟩) l.length cap)
  | tip (x : Ctx) (h ver : Nat) (s : SI) (v : Value) (hs : nth x.S h = some s) (hv : ver ≤ s.ver) (hval : s.ver = ver → v = tipVal s) (hat : atomic v) : RA x (.tip h ver) v
  | fp (x : Ctx) (l : List A) (p o : Nat) (c : Nat → Value) (hf : ∀ j a, nth l j = some a → x.fz p (o + j) = some (c j))
      (hr : ∀ j a, nth l j = some a → RA x.bare a (c j)) : RA x (.fp l) (.pointer (some ⟨p, o, none⟩))
  | sp (x : Ctx) (h ver : Nat) (i : Int) (o : Nat) (s : SI) (v : Value) (hs : nth x.S h = some s) (hv : ver ≤ s.ver)
      (hval : s.ver = ver → ∃ p cap, s.blk = some (p, cap) ∧ 0 ≤ i ∧ i.toNat < s.n ∧ v = .pointer (some ⟨p, i.toNat * s.w + o, none⟩)) (hat : atomic v) : RA x (.sp h ver i o) v
  | clo (x : Ctx) (f : FuncId) (caps : List A) (cs : List Value) (c : Nat → Value) (hl : len cs = len caps) (hc : ∀ j a, nth caps j = some a → nth cs j = some (c j))
      (hr : ∀ j a, nth caps j = some a → RA x a (c j)) : RA x (.clo f caps) (.func (.func f) #[] cs.toArray)
  | raw (x : Ctx) (v : Value) (h : atomic v) : RA x (.raw v) v
  | junk (x : Ctx) (v : Value) (h : atomic v) : RA x .junk v

def RL (x : Ctx) : List A → List Value → Prop
  | [], [] => True
  | a :: l, v :: r => RA x a v ∧ RL x l r
  | _, _ => False
def RW (x : Ctx) : W → Value → Prop
  | .one a, v => RA x a v
  | .agg l, v => ∃ C : List Value, v = .agg C.toArray ∧ RL x l C
  | .junk, _ => True
def RWs (x : Ctx) : List W → List Value → Prop
  | [], [] => True
  | a :: l, v :: r => RW x a v ∧ RWs x l r
  | _, _ => False
def RV (x : Ctx) : V → Value → Prop
  | .w a, v => RW x a v
  | .tup l, v => ∃ C : List Value, v = .tuple C.toArray ∧ RWs x l C
def RVs (x : Ctx) : List V → List Value → Prop
  | [], [] => True
  | a :: l, v :: r => RV x a v ∧ RVs x l r
  | _, _ => False

theorem RA.atomic {x : Ctx} {a : A} {v : Value} (h : RA x a v) : atomic v := by
  cases h <;> first | trivial | assumption

structure StgOk (x : Ctx) (g : Stg) (s : SI) (w : World) : Prop where
  ver : s.ver = g.ver
  n : s.n = g.l.length
  wd : s.w = g.r.wid
  nil : s.blk = none → s.n = 0 ∧ s.fc = 0
  row : ∀ p cap, s.blk = some (p, cap) → ∃ C : List Value, w.heap[p]? = some (.cells C.toArray g.T (0, 0)) ∧ C.length = cap * g.r.wid ∧ s.n ≤ cap ∧ cap ≤ maxLen ∧
    (∀ i j a, i < s.n → nth (elN g.r g.l i) j = some a → ∃ v, C[i * g.r.wid + j]? = some v ∧ RA x.bare a v) ∧
    s.fc ≤ s.n * g.r.wid ∧ (∀ o, o < s.fc → x.fz p o = C[o]?) ∧ (∀ o, s.fc ≤ o → x.fz p o = none)
  fzn : g.fzn = false → s.fc = 0
  ffz : g.ffz = true → s.fc = s.n * g.r.wid
  ub : 0 < g.ub → g.l.length < g.ub

/-- What is needed to read. -/
structure MemR (x : Ctx) (m : Mem) (w : World) : Prop where
  fz : ∀ b o v, x.fz b o = some v → w.cell? ⟨b, o, none⟩ = some v
  box : ∀ b l, nth m.boxes b = some l → ∃ p C T, nth x.M b = some p ∧ w.heap[p]? = some (.cells (List.toArray C) T (0, 0)) ∧ RL x l C
  stg : ∀ h g, nth m.stgs h = some g → ∃ s, nth x.S h = some s ∧ StgOk x g s w

structure MemOk (x : Ctx) (m : Mem) (w : World) : Prop where
  fresh : ∀ k, w.heap.size ≤ k → x.own k
  fz : ∀ b o v, x.fz b o = some v → w.cell? ⟨b, o, none⟩ = some v
  ml : x.M.length = m.boxes.length
  box : ∀ b l p, nth m.boxes b = some l → nth x.M b = some p → ∃ C T, w.heap[p]? = some (.cells (List.toArray C) T (0, 0)) ∧ RL x l C
  mown : ∀ b p, nth x.M b = some p → x.own p ∧ ∀ o, x.fz p o = none
  inj : ∀ b b' p, nth x.M b = some p → nth x.M b' = some p → b = b'
  sl : x.S.length = m.stgs.length
  stg : ∀ h g s, nth m.stgs h = some g → nth x.S h = some s → StgOk x g s w
  sown : ∀ h s p cap, nth x.S h = some s → s.blk = some (p, cap) → x.own p ∧ ∀ b, nth x.M b ≠ some p
  sinj : ∀ h h' s s' p cap cap', nth x.S h = some s → nth x.S h' = some s' → s.blk = some (p, cap) → s'.blk = some (p, cap') → h = h'

structure Step (x : Ctx) (w w' : World) : Prop where
  os : w'.os = w.os
  tape : w'.tape = w.tape
  output : w'.output = w.output
  size : w.heap.size ≤ w'.heap.size
  block : ∀ k, ¬ x.own k → w'.heap[k]? = w.heap[k]?

theorem Step.refl (x : Ctx) (w : World) : Step x w w := ⟨rfl, rfl, rfl, Nat.le_refl _, fun _ _ => rfl⟩

/-- s' is s, or s grown. -/
structure SLe (s s' : SI) : Prop where
  ver : s.ver ≤ s'.ver
  same : s'.ver = s.ver → s'.blk = s.blk ∧ s'.n = s.n ∧ s'.w = s.w ∧ s'.na = s.na
theorem SLe.refl (s : SI) : SLe s s := ⟨Nat.le_refl _, fun _ => ⟨rfl, rfl, rfl, rfl⟩⟩
theorem SLe.trans {a b c : SI} (h : SLe a b) (k : SLe b c) : SLe a c :=
  ⟨Nat.le_trans h.ver k.ver, fun e => by
    have h1 : c.ver = b.ver := Nat.le_antisymm (by have := h.ver; omega) k.ver
    have h2 : b.ver = a.ver := by omega
    obtain ⟨p1, p2, p3, p4⟩ := k.same h1
    obtain ⟨q1, q2, q3, q4⟩ := h.same h2
    exact ⟨p1.trans q1, p2.trans q2, p3.trans q3, p4.trans q4⟩⟩
theorem SLe.tipVal {s s' : SI} (h : SLe s s') (e : s'.ver = s.ver) : S3.tipVal s' = S3.tipVal s := by
  obtain ⟨h1, h2, _, h4⟩ := h.same e
  simp only [S3.tipVal, h1, h2, h4]

/-- x' is x with more boxes and slices, and slices that have grown. -/
structure Ext (x x' : Ctx) : Prop where
  own : x'.own = x.own
  M : ∀ b p, nth x.M b = some p → nth x'.M b = some p
  S : ∀ h s, nth x.S h = some s → ∃ s', nth x'.S h = some s' ∧ SLe s s'
  fz : ∀ b o v, x.fz b o = some v → x'.fz b o = some v
  new : ∀ b o v, x'.fz b o = some v → x.fz b o = some v ∨ x.own b

theorem Ext.refl (x : Ctx) : Ext x x := ⟨rfl, fun _ _ h => h, fun _ s h => ⟨s, h, .refl s⟩, fun _ _ _ h => h, fun _ _ _ h => .inl h⟩
theorem Ext.trans {x y z : Ctx} (h : Ext x y) (k : Ext y z) : Ext x z :=
  ⟨k.own.trans h.own, fun _ _ e => k.M _ _ (h.M _ _ e), fun i s e => let ⟨s1, e1, l1⟩ := h.S i s e; let ⟨s2, e2, l2⟩ := k.S i s1 e1; ⟨s2, e2, l1.trans l2⟩, fun _ _ _ e => k.fz _ _ _ (h.fz _ _ _ e),
    fun _ _ _ e => (k.new _ _ _ e).elim (fun e => h.new _ _ _ e) (fun o => .inr (h.own ▸ o))⟩
theorem Step.trans {x y : Ctx} {w w' w'' : World} (h : Step x w w') (k : Step y w' w'') (o : y.own = x.own) : Step x w w'' :=
  ⟨k.os.trans h.os, k.tape.trans h.tape, k.output.trans h.output, Nat.le_trans h.size k.size, fun i hi => (k.block i (by rw [o]; exact hi)).trans (h.block i hi)⟩

theorem nth_nil {α : Type} (n : Nat) : nth ([] : List α) n = none := by cases n <;> rfl
theorem Ext.bare {x x' : Ctx} (h : Ext x x') : Ext x.bare x'.bare :=
  ⟨h.own, fun b p e => by simp [Ctx.bare, nth_nil] at e, fun b p e => by simp [Ctx.bare, nth_nil] at e, h.fz, h.new⟩

/-! ### codes -/
theorem R.enc_len : ∀ (r : R) (x : r.den), (r.enc x).length = r.wid
  | .int _, _ => rfl
  | .bool, _ => rfl
  | .str, _ => rfl
  | .sl _, _ => rfl
  | .pair a b, x => by simp only [R.enc, R.wid, List.length_append, R.enc_len a, R.enc_len b]
  | .unit, _ => rfl
theorem R.enc_plain : ∀ (r : R) (x : r.den), ∀ a ∈ r.enc x, plainA a = true
  | .int _, _, a, h => by simp [R.enc] at h; subst h; rfl
  | .bool, _, a, h => by simp [R.enc] at h; subst h; rfl
  | .str, _, a, h => by simp [R.enc] at h; subst h; rfl
  | .sl _, _, a, h => by simp [R.enc] at h; subst h; rfl
  | .pair p q, x, a, h => by
    simp only [R.enc, List.mem_append] at h
    rcases h with h | h
    · exact R.enc_plain p _ a h
    · exact R.enc_plain q _ a h
  | .unit, _, a, h => by simp [R.enc] at h
theorem nth_mem {α : Type} : ∀ {l : List α} {n : Nat} {a : α}, nth l n = some a → a ∈ l
  | [], n, a, h => by simp [nth_nil] at h
  | b :: l, 0, a, h => by simp [nth] at h; simp [h]
  | b :: l, n + 1, a, h => by simp only [nth] at h; exact List.mem_cons_of_mem _ (nth_mem h)

/-- More is frozen. -/
def FzLe (x x' : Ctx) : Prop := ∀ b o v, x.fz b o = some v → x'.fz b o = some v
/-- What lies in an element hangs on the frozen cells alone. -/
theorem RA.plain {x : Ctx} {a : A} {v : Value} (h : RA x a v) : ∀ {x' : Ctx}, FzLe x x' → plainA a = true → RA x' a v := by
  induction h with
  | bool x l b => intro x' _ _; exact .bool _ _ _
  | int x l k n h => intro x' _ _; exact .int _ _ _ _ h
  | str x s => intro x' _ _; exact .str _ _
  | nilsl x => intro x' _ _; exact .nilsl _
  | lst0 x r lit full nn l a cap h hf hn => intro x' _ _; exact .lst0 _ _ _ _ _ _ _ _ h hf hn
  | lst x r lit full nn l p o cap c h hf hcap hml hz hr ih =>
    intro x' hx _
    exact .lst _ _ _ _ _ _ _ _ _ c h hf hcap hml (fun i j a h1 h2 => hx _ _ _ (hz i j a h1 h2)) (fun i j a h1 h2 => ih i j a h1 h2 (x' := x'.bare) hx (R.enc_plain _ _ _ (nth_mem h2)))
  | _ => intro x' _ hp; simp [plainA] at hp

theorem RA.mono {x : Ctx} {a : A} {v : Value} (h : RA x a v) : ∀ {x' : Ctx}, Ext x x' → RA x' a v := by
  induction h with
  | bool x l b => intro x' _; exact .bool _ _ _
  | int x l k n h => intro x' _; exact .int _ _ _ _ h
  | str x s => intro x' _; exact .str _ _
  | loc x b o p h => intro x' e; exact .loc _ _ _ _ (e.M _ _ h)
  | nilp x => intro x' _; exact .nilp _
  | nilsl x => intro x' _; exact .nilsl _
  | lst0 x r lit full nn l a cap h hf hn => intro x' _; exact .lst0 _ _ _ _ _ _ _ _ h hf hn
  | lst x r lit full nn l p o cap c h hf hcap hml hz hr ih =>
    intro x' ex
    exact .lst _ _ _ _ _ _ _ _ _ c h hf hcap hml (fun i j a h1 h2 => ex.fz _ _ _ (hz i j a h1 h2)) (fun i j a h1 h2 => ih i j a h1 h2 ex.bare)
  | tip x h ver s v hs hv hval hat =>
    intro x' ex
    obtain ⟨s', hs', hle⟩ := ex.S _ _ hs
    exact .tip _ _ _ s' _ hs' (Nat.le_trans hv hle.ver) (fun e => by
      have h1 : s.ver = ver := by have := hle.ver; omega
      rw [hle.tipVal (by omega)]; exact hval h1) hat
  | fp x l p o c hf hr ih => intro x' ex; exact .fp _ _ _ _ c (fun j a h => ex.fz _ _ _ (hf j a h)) (fun j a h => ih j a h ex.bare)
  | sp x h ver i o s v hs hv hval hat =>
    intro x' ex
    obtain ⟨s', hs', hle⟩ := ex.S _ _ hs
    exact .sp _ _ _ _ _ s' _ hs' (Nat.le_trans hv hle.ver) (fun e => by
      have h1 : s.ver = ver := by have := hle.ver; omega
      obtain ⟨e1, e2, e3, _⟩ := hle.same (by omega)
      rw [e1, e2, e3]; exact hval h1) hat
  | clo x f caps cs c hl hc hr ih => intro x' ex; exact .clo _ _ _ _ c hl hc (fun j a h => ih j a h ex)
  | raw x v h => intro x' _; exact .raw _ _ h
  | junk x v h => intro x' _; exact .junk _ _ h

theorem RL.mono {x x' : Ctx} (e : Ext x x') : ∀ {l : List A} {vs : List Value}, RL x l vs → RL x' l vs
  | [], [], _ => trivial
  | _ :: _, _ :: _, h => ⟨h.1.mono e, RL.mono e h.2⟩
  | [], _ :: _, h => h.elim
  | _ :: _, [], h => h.elim
theorem RW.mono {x x' : Ctx} (e : Ext x x') {a : W} {v : Value} (h : RW x a v) : RW x' a v := by
  cases a with
  | one a => exact RA.mono h e
  | agg l => obtain ⟨C, hv, hl⟩ := h; exact ⟨C, hv, hl.mono e⟩
  | junk => trivial
theorem RWs.mono {x x' : Ctx} (e : Ext x x') : ∀ {l : List W} {vs : List Value}, RWs x l vs → RWs x' l vs
  | [], [], _ => trivial
  | _ :: _, _ :: _, h => ⟨h.1.mono e, RWs.mono e h.2⟩
  | [], _ :: _, h => h.elim
  | _ :: _, [], h => h.elim
theorem RV.mono {x x' : Ctx} (e : Ext x x') {a : V} {v : Value} (h : RV x a v) : RV x' a v := by
  cases a with
  | w a => exact RW.mono e h
  | tup l => obtain ⟨C, hv, hl⟩ := h; exact ⟨C, hv, hl.mono e⟩
theorem RVs.mono {x x' : Ctx} (e : Ext x x') : ∀ {l : List V} {vs : List Value}, RVs x l vs → RVs x' l vs
  | [], [], _ => trivial
  | _ :: _, _ :: _, h => ⟨h.1.mono e, RVs.mono e h.2⟩
  | [], _ :: _, h => h.elim
  | _ :: _, [], h => h.elim

/-! ### lists -/
theorem len_eq {α : Type} : ∀ l : List α, len l = l.length
  | [] => rfl
  | _ :: l => by simp [len, len_eq l]
theorem nth_eq {α : Type} : ∀ (l : List α) (n : Nat), nth l n = l[n]?
  | [], _ => by simp [nth]
  | _ :: _, 0 => by simp [nth]
  | _ :: l, n + 1 => by simp [nth, nth_eq l n]
theorem setN_eq {α : Type} : ∀ (l : List α) (n : Nat) (x : α), setN l n x = l.set n x
  | [], _, _ => by simp [setN]
  | _ :: _, 0, _ => by simp [setN]
  | _ :: l, n + 1, x => by simp [setN, setN_eq l n]
theorem dropN_eq {α : Type} : ∀ (n : Nat) (l : List α), dropN n l = l.drop n
  | 0, l => by simp [dropN]
  | _ + 1, [] => by simp [dropN]
  | n + 1, _ :: l => by simp [dropN, dropN_eq n l]
theorem firstN_eq {α : Type} : ∀ (n : Nat) (l : List α), firstN n l = l.take n
  | 0, l => by simp [firstN]
  | _ + 1, [] => by simp [firstN]
  | n + 1, _ :: l => by simp [firstN, firstN_eq n l]
theorem takeN_some {α : Type} : ∀ (n : Nat) (l r : List α), takeN n l = some r → r = l.take n ∧ n ≤ l.length
  | 0, l, r, h => by simp [takeN] at h; simp [h]
  | _ + 1, [], r, h => by simp [takeN] at h
  | n + 1, a :: l, r, h => by
    simp only [takeN] at h
    split at h
    · rename_i r' e
      obtain ⟨h1, h2⟩ := takeN_some n l r' e
      simp only [Option.some.injEq] at h
      subst h
      simp [h1]; omega
    · simp at h
theorem memN_iff : ∀ (l : List Nat) (n : Nat), memN l n = true ↔ n ∈ l
  | [], n => by simp [memN]
  | a :: l, n => by
    have h := memN_iff l n
    simp only [memN, Bool.or_eq_true, h, List.mem_cons, Nat.beq_eq]
    exact ⟨fun h => h.imp Eq.symm id, fun h => h.imp Eq.symm id⟩

theorem RL.length {x : Ctx} : ∀ {l : List A} {vs : List Value}, RL x l vs → l.length = vs.length
  | [], [], _ => rfl
  | _ :: l, _ :: r, h => by have := RL.length (l := l) (vs := r) h.2; simp only [List.length_cons, this]
  | [], _ :: _, h => h.elim
  | _ :: _, [], h => h.elim
theorem RL.nth {x : Ctx} : ∀ {l : List A} {vs : List Value}, RL x l vs → ∀ (j : Nat) (a : A), nth l j = some a → ∃ v, vs[j]? = some v ∧ RA x a v
  | [], [], _, j, a, e => by simp [S3.nth] at e
  | b :: l, v :: r, h, 0, a, e => by simp [S3.nth] at e; subst e; exact ⟨v, by simp, h.1⟩
  | b :: l, v :: r, h, j + 1, a, e => by simp only [S3.nth] at e; simpa using RL.nth h.2 j a e
  | [], _ :: _, h, _, _, _ => h.elim
  | _ :: _, [], h, _, _, _ => h.elim
theorem RL.of_nth {x : Ctx} : ∀ {l : List A} {vs : List Value}, l.length = vs.length → (∀ (j : Nat) (a : A), S3.nth l j = some a → ∃ v, vs[j]? = some v ∧ RA x a v) → RL x l vs
  | [], [], _, _ => trivial
  | [], _ :: _, h, _ => by simp at h
  | _ :: _, [], h, _ => by simp at h
  | a :: l, v :: r, h, k => by
    refine ⟨?_, RL.of_nth (by simpa using h) fun j b e => by simpa using k (j + 1) b e⟩
    obtain ⟨u, h1, h2⟩ := k 0 a rfl
    simp at h1; subst h1; exact h2
theorem RL.drop {x : Ctx} {l : List A} {vs : List Value} (h : RL x l vs) (n : Nat) : RL x (l.drop n) (vs.drop n) := by
  induction n generalizing l vs with
  | zero => simpa using h
  | succ n ih =>
    match l, vs, h with
    | [], [], _ => trivial
    | _ :: _, _ :: _, h => simpa using ih h.2
theorem RL.take {x : Ctx} {l : List A} {vs : List Value} (h : RL x l vs) (n : Nat) : RL x (l.take n) (vs.take n) := by
  induction n generalizing l vs with
  | zero => trivial
  | succ n ih =>
    match l, vs, h with
    | [], [], _ => trivial
    | _ :: _, _ :: _, h => simpa using ⟨h.1, ih h.2⟩
theorem RL.set {x : Ctx} {l : List A} {vs : List Value} (h : RL x l vs) (n : Nat) {a : A} {v : Value} (ha : RA x a v) : RL x (l.set n a) (vs.set n v) := by
  induction n generalizing l vs with
  | zero =>
    match l, vs, h with
    | [], [], _ => trivial
    | _ :: _, _ :: _, h => exact ⟨ha, h.2⟩
  | succ n ih =>
    match l, vs, h with
    | [], [], _ => trivial
    | _ :: _, _ :: _, h => simpa using ⟨h.1, ih h.2⟩
theorem RL.append {x : Ctx} : ∀ {l l' : List A} {vs vs' : List Value}, RL x l vs → RL x l' vs' → RL x (l ++ l') (vs ++ vs')
  | [], _, [], _, _, h' => by simpa using h'
  | _ :: _, _, _ :: _, _, h, h' => ⟨h.1, RL.append h.2 h'⟩
  | [], _, _ :: _, _, h, _ => h.elim
  | _ :: _, _, [], _, h, _ => h.elim

/-! ### the frame -/
structure RF (x : Ctx) (sl : List V) (t : Array Value) : Prop where
  size : sl.length = t.size
  slot : ∀ (i : Nat) (v : V), nth sl i = some v → RV x v (t.getD i undef)

theorem RF.mono {x x' : Ctx} {sl : List V} {t : Array Value} (h : RF x sl t) (e : Ext x x') : RF x' sl t := ⟨h.size, fun i v hv => (h.slot i v hv).mono e⟩

structure Rel (x : Ctx) (s : St) (a : Act) (w : World) : Prop where
  f : RF x s.slots a.tmps
  m : MemOk x s.mem w
  d : a.defers = []

theorem RF.set {x : Ctx} {sl : List V} {t : Array Value} (h : RF x sl t) (d : Nat) {v : V} {u : Value} (hv : RV x v u) : RF x (setN sl d v) (t.setIfInBounds d u) := by
  refine ⟨by simp [setN_eq, h.size], fun i v' e => ?_⟩
  rw [setN_eq, nth_eq] at e
  by_cases hd : d = i
  · subst hd
    have hlt : d < sl.length := by
      rcases Nat.lt_or_ge d sl.length with h' | h'
      · exact h'
      · rw [List.set_eq_of_length_le h'] at e; rw [List.getElem?_eq_none h'] at e; simp at e
    have hlt' : d < t.size := h.size ▸ hlt
    rw [List.getElem?_set_self hlt] at e
    simp only [Option.some.injEq] at e
    subst e
    simpa [Array.getD, hlt'] using hv
  · rw [List.getElem?_set_ne hd] at e
    have := h.slot i v' (by rw [nth_eq]; exact e)
    have h2 : (t.setIfInBounds d u).getD i undef = t.getD i undef := by
      simp [Array.getD_eq_getD_getElem?, hd]
    rw [h2]; exact this

end Go.S3
