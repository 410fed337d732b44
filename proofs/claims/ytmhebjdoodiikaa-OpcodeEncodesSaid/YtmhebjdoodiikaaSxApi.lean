/-
  Codecs between Lean data and abstract values, and contracts of functions that leave memory alone. Conditions: none (definitions and lemmas).
-/
import Derived.Test.YtmhebjdoodiikaaSxFun
import Derived.KernelRfl
namespace Go.Sx

/-- Data that lie in a row of cells. -/
structure PC (α : Type) where
  enc : α → List A
  dec : List A → Option (α × List A)
  inr : α → Prop
  ok : ∀ l a r, dec l = some (a, r) → ∀ x vs, RL x l vs → inr a ∧ ∃ v1 v2, vs = v1 ++ v2 ∧ (∀ x' : Ctx, x'.fz = x.fz → RL x' (enc a) v1) ∧ RL x r v2
  ex : ∀ a, (enc a).all exactA = true
  ln : ∀ a b, (enc a).length = (enc b).length
  dl : ∀ l a r, dec l = some (a, r) → l.length = (enc a).length + r.length

def PC.int (k : IntKind) : PC Int where
  enc n := [.int false k n]
  dec := fun
    | .int _ k' n :: r => match decide (k' = k) with
      | true => some (n, r)
      | false => none
    | _ => none
  inr n := inR k n
  ok := by
    intro l a r h x vs hv
    cases l with
    | nil => simp at h
    | cons b l =>
      cases b <;> simp at h
      split at h
      · rename_i k' n hk
        simp only [decide_eq_true_eq] at hk
        subst hk
        simp only [Option.some.injEq, Prod.mk.injEq] at h
        obtain ⟨rfl, rfl⟩ := h
        cases vs with
        | nil => exact hv.elim
        | cons v vs =>
          obtain ⟨rfl, hr⟩ := int_of hv.1
          exact ⟨hr, [_], vs, rfl, fun x' _ => ⟨.int _ _ _ _ hr, trivial⟩, hv.2⟩
      · simp at h
  ex := fun _ => rfl
  ln := fun _ _ => rfl
  dl := by
    intro l a r h
    cases l with
    | nil => simp at h
    | cons b l =>
      cases b <;> simp at h
      split at h
      · simp only [Option.some.injEq, Prod.mk.injEq] at h
        obtain ⟨rfl, rfl⟩ := h
        simp; omega
      · simp at h
def PC.bool : PC Bool where
  enc b := [.bool false b]
  dec := fun
    | .bool _ b :: r => some (b, r)
    | _ => none
  inr _ := True
  ok := by
    intro l a r h x vs hv
    cases l with
    | nil => simp at h
    | cons b l =>
      cases b <;> simp at h
      obtain ⟨rfl, rfl⟩ := h
      cases vs with
      | nil => exact hv.elim
      | cons v vs =>
        have := bool_of hv.1
        subst this
        exact ⟨trivial, [_], vs, rfl, fun x' _ => ⟨.bool _ _ _, trivial⟩, hv.2⟩
  ex := fun _ => rfl
  ln := fun _ _ => rfl
  dl := by
    intro l a r h
    cases l with
    | nil => simp at h
    | cons b l =>
      cases b <;> simp at h
      obtain ⟨rfl, rfl⟩ := h
      simp; omega
def PC.pair {α β : Type} (p : PC α) (q : PC β) : PC (α × β) where
  enc a := p.enc a.1 ++ q.enc a.2
  dec l := match p.dec l with
    | some (a, r) => match q.dec r with
      | some (b, r') => some ((a, b), r')
      | none => none
    | none => none
  inr a := p.inr a.1 ∧ q.inr a.2
  ok := by
    intro l a r h x vs hv
    split at h
    · rename_i a1 r1 h1
      split at h
      · rename_i b r2 h2
        simp only [Option.some.injEq, Prod.mk.injEq] at h
        obtain ⟨rfl, rfl⟩ := h
        obtain ⟨i1, u1, u2, rfl, e1, e2⟩ := p.ok _ _ _ h1 x vs hv
        obtain ⟨i2, u3, u4, rfl, e3, e4⟩ := q.ok _ _ _ h2 x u2 e2
        exact ⟨⟨i1, i2⟩, u1 ++ u3, u4, by simp, fun x' hx => (e1 x' hx).append (e3 x' hx), e4⟩
      · simp at h
    · simp at h
  ex := fun a => by simp only [List.all_append, p.ex, q.ex, Bool.and_self]
  ln := fun a b => by simp only [List.length_append, p.ln a.1 b.1, q.ln a.2 b.2]
  dl := by
    intro l a r h
    split at h
    · rename_i a1 r1 h1
      split at h
      · rename_i b r2 h2
        simp only [Option.some.injEq, Prod.mk.injEq] at h
        obtain ⟨rfl, rfl⟩ := h
        have := p.dl _ _ _ h1
        have := q.dl _ _ _ h2
        simp only [List.length_append]; omega
      · simp at h
    · simp at h
def PC.iso {α β : Type} (p : PC α) (f : α → β) (g : β → α) (hfg : ∀ a, g (f a) = a) : PC β where
  enc b := p.enc (g b)
  dec l := match p.dec l with
    | some (a, r) => some (f a, r)
    | none => none
  inr b := p.inr (g b)
  ok := by
    intro l a r h x vs hv
    split at h
    · rename_i a1 r1 h1
      simp only [Option.some.injEq, Prod.mk.injEq] at h
      obtain ⟨rfl, rfl⟩ := h
      rw [hfg]
      exact p.ok _ _ _ h1 x vs hv
    · simp at h
  ex := fun b => p.ex (g b)
  ln := fun a b => p.ln (g a) (g b)
  dl := by
    intro l a r h
    split at h
    · rename_i a1 r1 h1
      simp only [Option.some.injEq, Prod.mk.injEq] at h
      obtain ⟨rfl, rfl⟩ := h
      rw [hfg]
      exact p.dl _ _ _ h1
    · simp at h

/-- Data that are one value. -/
structure WC (α : Type) where
  enc : α → W
  dec : W → Option α
  inr : α → Prop
  ok : ∀ w a, dec w = some a → ∀ x v, RW x w v → inr a ∧ ∀ x' : Ctx, x'.fz = x.fz → RW x' (enc a) v
  ex : ∀ a, exactW (enc a) = true

def WC.int (k : IntKind) : WC Int where
  enc n := .one (.int false k n)
  dec := fun
    | .one (.int _ k' n) => match decide (k' = k) with
      | true => some n
      | false => none
    | _ => none
  inr n := inR k n
  ok := by
    intro w a h x v hv
    cases w with
    | one b =>
      cases b <;> simp at h
      split at h
      · rename_i hk
        simp only [decide_eq_true_eq] at hk
        subst hk
        simp only [Option.some.injEq] at h
        subst h
        obtain ⟨rfl, hr⟩ := int_of hv
        exact ⟨hr, fun x' _ => .int _ _ _ _ hr⟩
      · simp at h
    | _ => simp at h
  ex := fun _ => rfl
def WC.bool : WC Bool where
  enc b := .one (.bool false b)
  dec := fun
    | .one (.bool _ b) => some b
    | _ => none
  inr _ := True
  ok := by
    intro w a h x v hv
    cases w with
    | one b =>
      cases b <;> simp at h
      subst h
      have := bool_of hv
      subst this
      exact ⟨trivial, fun x' _ => .bool _ _ _⟩
    | _ => simp at h
  ex := fun _ => rfl
def WC.agg {α : Type} (p : PC α) : WC α where
  enc a := .agg (p.enc a)
  dec := fun
    | .agg l => match p.dec l with
      | some (a, []) => some a
      | _ => none
    | _ => none
  inr := p.inr
  ok := by
    intro w a h x v hv
    cases w with
    | agg l =>
      simp only at h
      split at h
      · rename_i a' h1
        simp only [Option.some.injEq] at h
        subst h
        obtain ⟨C, rfl, hC⟩ := hv
        obtain ⟨i1, v1, v2, rfl, e1, e2⟩ := p.ok _ _ _ h1 x C hC
        have : v2 = [] := by cases v2 with | nil => rfl | cons _ _ => exact e2.elim
        subst this
        exact ⟨i1, fun x' hx => ⟨v1 ++ [], rfl, by rw [List.append_nil]; exact e1 x' hx⟩⟩
      · simp at h
    | _ => simp at h
  ex := fun a => p.ex a

/-- Arguments. -/
structure AC (α : Type) where
  enc : α → List V
  dec : List V → Option α
  inr : α → Prop
  ok : ∀ l a, dec l = some a → ∀ x vs, RVs x l vs → inr a ∧ ∀ x' : Ctx, x'.fz = x.fz → RVs x' (enc a) vs
def AC.nil : AC Unit where
  enc _ := []
  dec := fun
    | [] => some ()
    | _ => none
  inr _ := True
  ok := by
    intro l a h x vs hv
    cases l with
    | nil =>
      cases vs with
      | nil => exact ⟨trivial, fun _ _ => trivial⟩
      | cons _ _ => exact hv.elim
    | cons _ _ => simp at h
def AC.one {α : Type} (c : WC α) : AC α where
  enc a := [.w (c.enc a)]
  dec := fun
    | [.w w] => c.dec w
    | _ => none
  inr := c.inr
  ok := by
    intro l a h x vs hv
    split at h
    · rename_i w
      match vs, hv with
      | [v], hv =>
        obtain ⟨h1, h2⟩ := c.ok _ _ h x v hv.1
        exact ⟨h1, fun x' hx => ⟨h2 x' hx, trivial⟩⟩
    · simp at h
def AC.cons {α β : Type} (c : WC α) (r : AC β) : AC (α × β) where
  enc a := .w (c.enc a.1) :: r.enc a.2
  dec := fun
    | .w w :: l => match c.dec w with
      | some a => match r.dec l with
        | some b => some (a, b)
        | none => none
      | none => none
    | _ => none
  inr a := c.inr a.1 ∧ r.inr a.2
  ok := by
    intro l a h x vs hv
    split at h
    · rename_i w l
      split at h
      · rename_i a1 h1
        split at h
        · rename_i b h2
          simp only [Option.some.injEq] at h
          subst h
          match vs, hv with
          | v :: vs, hv =>
            obtain ⟨i1, e1⟩ := c.ok _ _ h1 x v hv.1
            obtain ⟨i2, e2⟩ := r.ok _ _ h2 x vs hv.2
            exact ⟨⟨i1, i2⟩, fun x' hx => ⟨e1 x' hx, e2 x' hx⟩⟩
        · simp at h
      · simp at h
    · simp at h

/-- Results. -/
structure RC (β : Type) where
  enc : β → V
  ex : ∀ b, exactV (enc b) = true
def RC.one {β : Type} (c : WC β) : RC β := ⟨fun b => .w (c.enc b), fun b => c.ex b⟩
def RC.two {β γ : Type} (c : WC β) (d : WC γ) : RC (β × γ) := ⟨fun b => .tup [c.enc b.1, d.enc b.2], fun b => by simp [exactV, c.ex, d.ex]⟩
def RC.three {β γ δ : Type} (c : WC β) (d : WC γ) (e : WC δ) : RC (β × γ × δ) := ⟨fun b => .tup [c.enc b.1, d.enc b.2.1, e.enc b.2.2], fun b => by simp [exactV, c.ex, d.ex, e.ex]⟩
def RC.four {β γ δ ε : Type} (c : WC β) (d : WC γ) (e : WC δ) (f : WC ε) : RC (β × γ × δ × ε) := ⟨fun b => .tup [c.enc b.1, d.enc b.2.1, e.enc b.2.2.1, f.enc b.2.2.2], fun b => by simp [exactV, c.ex, d.ex, e.ex, f.ex]⟩

theorem exactA_ctx {x x' : Ctx} {a : A} {v : Value} (he : exactA a = true) (h : RA x a v) : RA x' a v := by
  cases a <;> simp [exactA] at he <;> cases h <;> first | exact .bool _ _ _ | exact .int _ _ _ _ (by assumption) | exact .str _ _ | exact .nilp _ | exact .nilsl _
theorem exactL_ctx {x x' : Ctx} : ∀ {l : List A} {v : List Value}, l.all exactA = true → RL x l v → RL x' l v
  | [], [], _, _ => trivial
  | _ :: _, _ :: _, he, h => by
    simp only [List.all_cons, Bool.and_eq_true] at he
    exact ⟨exactA_ctx he.1 h.1, exactL_ctx he.2 h.2⟩
  | [], _ :: _, _, h => h.elim
  | _ :: _, [], _, h => h.elim
theorem exactW_ctx {x x' : Ctx} {a : W} {v : Value} (he : exactW a = true) (h : RW x a v) : RW x' a v := by
  cases a with
  | one a => exact exactA_ctx he h
  | agg l => obtain ⟨C, e, h⟩ := h; exact ⟨C, e, exactL_ctx he h⟩
  | junk => trivial
theorem exactWs_ctx {x x' : Ctx} : ∀ {l : List W} {v : List Value}, l.all exactW = true → RWs x l v → RWs x' l v
  | [], [], _, _ => trivial
  | _ :: _, _ :: _, he, h => by
    simp only [List.all_cons, Bool.and_eq_true] at he
    exact ⟨exactW_ctx he.1 h.1, exactWs_ctx he.2 h.2⟩
  | [], _ :: _, _, h => h.elim
  | _ :: _, [], _, h => h.elim
theorem exactV_ctx {x x' : Ctx} {a : V} {v : Value} (he : exactV a = true) (h : RV x a v) : RV x' a v := by
  cases a with
  | w a => exact exactW_ctx he h
  | tup l => obtain ⟨C, e, h⟩ := h; exact ⟨C, e, exactWs_ctx he h⟩

/-- A contract of a function that leaves memory alone: under 'pre' it hands back F of its arguments. -/
def pureE {α β : Type} (d : AC α) (r : RC β) (pre : α → Option Bool) (F : α → β) : Entry :=
  .pure fun vs => match d.dec vs with
    | some a => some (pre a, r.enc (F a))
    | none => none

/-- Whether a number is a literal is forgotten. -/
def stripA : A → A
  | .bool _ b => .bool false b
  | .int _ k n => .int false k n
  | a => a
def stripL : List A → List A
  | [] => []
  | a :: l => stripA a :: stripL l
def stripW : W → W
  | .one a => .one (stripA a)
  | .agg l => .agg (stripL l)
  | .junk => .junk
def stripWs : List W → List W
  | [] => []
  | a :: l => stripW a :: stripWs l
def stripV : V → V
  | .w a => .w (stripW a)
  | .tup l => .tup (stripWs l)
theorem stripA_ok {x : Ctx} {a : A} {v : Value} (h : RA x a v) : RA x (stripA a) v := by
  unfold stripA
  split
  · cases h; exact .bool _ _ _
  · cases h; exact .int _ _ _ _ (by assumption)
  · exact h
theorem stripL_ok {x : Ctx} : ∀ {l : List A} {v : List Value}, RL x l v → RL x (stripL l) v
  | [], [], _ => trivial
  | _ :: _, _ :: _, h => ⟨stripA_ok h.1, stripL_ok h.2⟩
  | [], _ :: _, h => h.elim
  | _ :: _, [], h => h.elim
theorem stripW_ok {x : Ctx} {a : W} {v : Value} (h : RW x a v) : RW x (stripW a) v := by
  cases a with
  | one a => exact stripA_ok h
  | agg l => obtain ⟨C, e, h⟩ := h; exact ⟨C, e, stripL_ok h⟩
  | junk => trivial
theorem stripWs_ok {x : Ctx} : ∀ {l : List W} {v : List Value}, RWs x l v → RWs x (stripWs l) v
  | [], [], _ => trivial
  | _ :: _, _ :: _, h => ⟨stripW_ok h.1, stripWs_ok h.2⟩
  | [], _ :: _, h => h.elim
  | _ :: _, [], h => h.elim
theorem stripV_ok {x : Ctx} {a : V} {v : Value} (h : RV x a v) : RV x (stripV a) v := by
  cases a with
  | w a => exact stripW_ok h
  | tup l => obtain ⟨C, e, h⟩ := h; exact ⟨C, e, stripWs_ok h⟩

/-- What the executor finds of a function's values. -/
def evVal (E : Env) (fn : Func) (vs : List V) : RT (Option V) := (evFunc E fn vs ⟨[], []⟩).map fun | some p => some (stripV p.1) | none => none

theorem pureE_ok {E : Env} (hE : EnvOk E) {f : FuncId} {fn : Func} {c : Code} (hf : E.P.funcs[f]? = some fn) (hb : fn.body = some c) (hl : LoopsOk E c) (hcall : Callable E.P f)
    {α β : Type} {d : AC α} {r : RC β} {pre : α → Option Bool} {F : α → β} (h : ∀ a, d.inr a → pre a ≠ some false → (evVal E fn (d.enc a)).val = some (r.enc (F a))) :
    EntryOk E.P f (pureE d r pre F) := by
  refine ⟨hcall, fun vs chk v hp hc x m w args hm hv => ?_⟩
  simp only at hp
  split at hp
  · rename_i a ha
    simp only [Option.some.injEq, Prod.mk.injEq] at hp
    obtain ⟨rfl, rfl⟩ := hp
    obtain ⟨hin, hall⟩ := d.ok _ _ ha x args hv
    have h1 := h a hin hc
    unfold evVal at h1
    rw [RT.val_map] at h1
    split at h1
    · rename_i p hp
      simp only [Option.some.injEq] at h1
      have h2 := calls_of_ev hE hf hb hl (own0_ok hm) (hall (Ctx.own0 w x.fz) rfl) (v := p.1) (m' := p.2) hp
      refine h2.mono fun e w' hres => ?_
      obtain ⟨val, x', rfl, hrv, _, hext, hst⟩ := hres
      exact ⟨val, rfl, by rw [← h1]; exact exactV_ctx (by rw [h1]; exact r.ex _) (stripV_ok hrv), sameC_of_step hst⟩
    · simp at h1
  · simp at hp

/-- The same, with the whole tree of outcomes told. -/
theorem pureE_tree {E : Env} (hE : EnvOk E) {f : FuncId} {fn : Func} {c : Code} (hf : E.P.funcs[f]? = some fn) (hb : fn.body = some c) (hl : LoopsOk E c) (hcall : Callable E.P f)
    {α β : Type} {d : AC α} {r : RC β} {t : α → RT β} (h : ∀ a, evVal E fn (d.enc a) = (t a).map (fun b => some (r.enc b))) :
    EntryOk E.P f (pureE d r (fun _ => none) (fun a => (t a).val)) :=
  pureE_ok hE hf hb hl hcall fun a _ _ => by rw [h a, RT.val_map]
/-- The same where some ways end in a panic; they are not taken. -/
theorem pureE_part {E : Env} (hE : EnvOk E) {f : FuncId} {fn : Func} {c : Code} (hf : E.P.funcs[f]? = some fn) (hb : fn.body = some c) (hl : LoopsOk E c) (hcall : Callable E.P f)
    {α β : Type} {d : AC α} {r : RC β} {pre : α → Option Bool} {t : α → RT (Option β)} {F : α → β} (h : ∀ a, evVal E fn (d.enc a) = (t a).map (fun b => b.map r.enc))
    (hF : ∀ a, d.inr a → pre a ≠ some false → (t a).val = some (F a)) : EntryOk E.P f (pureE d r pre F) :=
  pureE_ok hE hf hb hl hcall fun a h1 h2 => by rw [h a, RT.val_map, hF a h1 h2]; rfl

/-- A contract with another function in its place. -/
theorem EntryOk.pure_congr {P : Program} {f : FuncId} {α β : Type} {d : AC α} {r : RC β} {pre pre' : α → Option Bool} {F G : α → β} (h : EntryOk P f (pureE d r pre F))
    (hp : ∀ a, d.inr a → pre' a ≠ some false → pre a ≠ some false) (hG : ∀ a, d.inr a → pre' a ≠ some false → F a = G a) : EntryOk P f (pureE d r pre' G) := by
  refine ⟨h.1, fun vs chk v hpv hc x m w args hm hv => ?_⟩
  simp only at hpv
  split at hpv
  · rename_i a ha
    simp only [Option.some.injEq, Prod.mk.injEq] at hpv
    obtain ⟨rfl, rfl⟩ := hpv
    obtain ⟨hin, _⟩ := d.ok _ _ ha x args hv
    rw [← hG a hin hc]
    exact h.2 vs (pre a) _ (by simp only [ha]) (hp a hin hc) x m w args hm hv
  · simp at hpv

/-! ### environments -/
def look (l : List (FuncId × Entry)) (f : FuncId) : Option Entry :=
  match l with
  | [] => none
  | (g, e) :: r => match Nat.beq g f with
    | true => some e
    | false => look r f
def AllOk (P : Program) : List (FuncId × Entry) → Prop
  | [] => True
  | (g, e) :: r => EntryOk P g e ∧ AllOk P r
theorem look_ok {P : Program} : ∀ {l : List (FuncId × Entry)}, AllOk P l → ∀ f e, look l f = some e → EntryOk P f e
  | [], _, _, _, h => by simp [look] at h
  | (g, e') :: r, hl, f, e, h => by
    simp only [look] at h
    split at h
    · rename_i hg
      simp only [Nat.beq_eq] at hg
      simp only [Option.some.injEq] at h
      subst h; subst hg; exact hl.1
    · exact look_ok hl.2 f e h
def envOf (P : Program) (l : List (FuncId × Entry)) (named : Nat) : Env := ⟨P, look l, fun _ => none, named, 6⟩
theorem envOf_ok {P : Program} {l : List (FuncId × Entry)} (h : AllOk P l) (n : Nat) : EnvOk (envOf P l n) := look_ok h
theorem noLoops {P : Program} {l : List (FuncId × Entry)} {n : Nat} : ∀ c : Code, LoopsOk (envOf P l n) c
  | .seq a b => ⟨noLoops a, noLoops b⟩
  | .cond _ a b => ⟨noLoops a, noLoops b⟩
  | .block _ c => by
    unfold LoopsOk
    split
    · rename_i b
      show LoopsOk (envOf P l n) b
      exact noLoops b
    · exact noLoops c
  | .skip | .region .. | .loop _ | .rangeFunc .. | .exit _ | .scope _ | .label _ | .goto _ | .ret | .refuse _ => trivial

section
variable {P : Program} {l : List (FuncId × Entry)} {n : Nat} {f : FuncId} {fn : Func}
theorem pureE_tree0 (n : Nat) (hl : AllOk P l) (hf : P.funcs[f]? = some fn) (hb : fn.body.isSome = true) (hcall : Callable P f)
    {α β : Type} {d : AC α} {r : RC β} {t : α → RT β} (h : ∀ a, evVal (envOf P l n) fn (d.enc a) = (t a).map (fun b => some (r.enc b))) :
    EntryOk P f (pureE d r (fun _ => none) (fun a => (t a).val)) := by
  obtain ⟨c, hc⟩ := Option.isSome_iff_exists.1 hb
  exact pureE_tree (E := envOf P l n) (envOf_ok hl n) hf hc (noLoops c) hcall h
theorem pureE_part0 (n : Nat) (hl : AllOk P l) (hf : P.funcs[f]? = some fn) (hb : fn.body.isSome = true) (hcall : Callable P f)
    {α β : Type} {d : AC α} {r : RC β} {pre : α → Option Bool} {t : α → RT (Option β)} {F : α → β} (h : ∀ a, evVal (envOf P l n) fn (d.enc a) = (t a).map (fun b => b.map r.enc))
    (hF : ∀ a, d.inr a → pre a ≠ some false → (t a).val = some (F a)) : EntryOk P f (pureE d r pre F) := by
  obtain ⟨c, hc⟩ := Option.isSome_iff_exists.1 hb
  exact pureE_part (E := envOf P l n) (envOf_ok hl n) hf hc (noLoops c) hcall h hF
theorem pureE_of0 (n : Nat) (hl : AllOk P l) (hf : P.funcs[f]? = some fn) (hb : fn.body.isSome = true) (hcall : Callable P f)
    {α β : Type} {d : AC α} {r : RC β} {pre : α → Option Bool} {F : α → β} (h : ∀ a, d.inr a → pre a ≠ some false → (evVal (envOf P l n) fn (d.enc a)).val = some (r.enc (F a))) : EntryOk P f (pureE d r pre F) := by
  obtain ⟨c, hc⟩ := Option.isSome_iff_exists.1 hb
  exact pureE_ok (E := envOf P l n) (envOf_ok hl n) hf hc (noLoops c) hcall h
end
end Go.Sx
