/-
  Contracts of functions, told by codes. Conditions: none (definitions and lemmas).
-/
import Derived.Test.YtiflfdlglncjlaaS3Fun
import Derived.KernelRfl
set_option linter.unusedSimpArgs false
set_option linter.unusedVariables false
namespace Go.S3

/-- The shape of a value: one cell, or the cells of a struct or an array. -/
inductive Sh where
  | one (r : R)
  | agg (r : R)
@[reducible] def Sh.code : Sh → R
  | .one r => r
  | .agg r => r
@[reducible] def Sh.den (s : Sh) : Type := s.code.den
def Sh.enc : (s : Sh) → s.den → W
  | .one r, y => match r.enc y with
    | [a] => .one a
    | _ => .junk
  | .agg r, y => .agg (r.enc y)
def Sh.dec : (s : Sh) → W → Option s.den
  | .one r, .one a => r.decW [a]
  | .agg r, .agg l => r.decW l
  | _, _ => none
def Sh.ok (s : Sh) (y : s.den) : Prop := s.code.ok y
@[reducible] def HL : List Sh → Type
  | [] => Unit
  | [s] => s.den
  | s :: t :: l => s.den × HL (t :: l)
def encWs : (ts : List Sh) → HL ts → List W
  | [], _ => []
  | [s], y => [s.enc y]
  | s :: t :: l, y => s.enc y.1 :: encWs (t :: l) y.2
def decWs : (ts : List Sh) → List W → Option (HL ts)
  | [], [] => some ()
  | [s], [w] => s.dec w
  | s :: t :: l, w :: ws => match s.dec w, decWs (t :: l) ws with
    | some a, some b => some (a, b)
    | _, _ => none
  | _, _ => none
def okHL : (ts : List Sh) → HL ts → Prop
  | [], _ => True
  | [s], y => s.ok y
  | s :: t :: l, y => s.ok y.1 ∧ okHL (t :: l) y.2
def mapW : List W → List V
  | [] => []
  | w :: l => .w w :: mapW l
def unW : List V → Option (List W)
  | [] => some []
  | .w w :: l => match unW l with
    | some r => some (w :: r)
    | none => none
  | _ => none
def encVs (ts : List Sh) (y : HL ts) : List V := mapW (encWs ts y)
def decVs (ts : List Sh) (vs : List V) : Option (HL ts) := match unW vs with
  | some ws => decWs ts ws
  | none => none
/-- The shape of what a function hands back. -/
inductive Rs where
  | one (s : Sh)
  | tup (l : List Sh)
@[reducible] def Rs.den : Rs → Type
  | .one s => s.den
  | .tup l => HL l
def Rs.enc : (r : Rs) → r.den → V
  | .one s, y => .w (s.enc y)
  | .tup l, y => .tup (encWs l y)

theorem RWs_of_mapW {x : Ctx} : ∀ {ws : List W} {args : List Value}, RVs x (mapW ws) args → RWs x ws args
  | [], [], _ => trivial
  | _ :: _, _ :: _, h => ⟨h.1, RWs_of_mapW h.2⟩
  | [], _ :: _, h => h.elim
  | _ :: _, [], h => h.elim
theorem RVs_mapW {x : Ctx} : ∀ {ws : List W} {args : List Value}, RWs x ws args → RVs x (mapW ws) args
  | [], [], _ => trivial
  | _ :: _, _ :: _, h => ⟨h.1, RVs_mapW h.2⟩
  | [], _ :: _, h => h.elim
  | _ :: _, [], h => h.elim
theorem unW_eq : ∀ {vs : List V} {ws : List W}, unW vs = some ws → vs = mapW ws
  | [], ws, h => by simp only [unW, Option.some.injEq] at h; subst h; rfl
  | .w w :: l, ws, h => by
    simp only [unW] at h
    split at h
    · rename_i r hr
      simp only [Option.some.injEq] at h; subst h
      rw [unW_eq hr]; rfl
    · simp at h
  | .tup _ :: _, _, h => by simp [unW] at h

/-- The values lie in cells that never change any more. -/
theorem Sh.enc_ctx {x x' : Ctx} (hx : FzLe x x') (s : Sh) (y : s.den) {v : Value} (h : RW x (s.enc y) v) : RW x' (s.enc y) v := by
  cases s with
  | one r =>
    simp only [Sh.enc] at h ⊢
    split at h
    · rename_i a ha
      have ha' : r.enc y = [a] := ha
      exact RA.plain h hx (R.enc_plain r y a (by simp [ha']))
    · trivial
  | agg r =>
    obtain ⟨C, e, hC⟩ := h
    exact ⟨C, e, RL.plain hx (R.enc_plain r y) hC⟩
theorem encWs_ctx {x x' : Ctx} (hx : FzLe x x') : ∀ (ts : List Sh) (y : HL ts) {vs : List Value}, RWs x (encWs ts y) vs → RWs x' (encWs ts y) vs
  | [], _, vs, h => by
    cases vs with
    | nil => trivial
    | cons _ _ => exact h.elim
  | [s], y, vs, h => match vs, h with
    | [v], h => ⟨s.enc_ctx hx y h.1, trivial⟩
  | s :: t :: l, y, vs, h => match vs, h with
    | v :: vs, h => ⟨s.enc_ctx hx y.1 h.1, encWs_ctx hx (t :: l) y.2 h.2⟩
theorem Rs.enc_ctx {x x' : Ctx} (hx : FzLe x x') (r : Rs) (y : r.den) {v : Value} (h : RV x (r.enc y) v) : RV x' (r.enc y) v := by
  cases r with
  | one s => exact s.enc_ctx hx y h
  | tup l => obtain ⟨C, e, hC⟩ := h; exact ⟨C, e, encWs_ctx hx l y hC⟩

theorem Sh.dec_ok {s : Sh} {w : W} {y : s.den} (h : s.dec w = some y) {x : Ctx} {v : Value} (hv : RW x w v) : RW x (s.enc y) v ∧ s.ok y := by
  cases s with
  | one r =>
    cases w with
    | one a =>
      simp only [Sh.dec] at h
      have h1 := R.decW_ok h (x := x) (vs := [v]) ⟨hv, trivial⟩
      refine ⟨?_, R.ok_of r y x [v] h1⟩
      simp only [Sh.enc]
      split
      · rename_i a' ha
        have ha' : r.enc y = [a'] := ha
        rw [ha'] at h1; exact h1.1
      · trivial
    | _ => simp [Sh.dec] at h
  | agg r =>
    cases w with
    | agg l =>
      simp only [Sh.dec] at h
      obtain ⟨C, e, hC⟩ := hv
      have h1 := R.decW_ok h hC
      exact ⟨⟨C, e, h1⟩, R.ok_of r y x C h1⟩
    | _ => simp [Sh.dec] at h
theorem decWs_ok {x : Ctx} : ∀ {ts : List Sh} {ws : List W} {y : HL ts}, decWs ts ws = some y → ∀ {vs : List Value}, RWs x ws vs → RWs x (encWs ts y) vs ∧ okHL ts y
  | [], [], y, h, vs, hv => ⟨hv, trivial⟩
  | [s], [w], y, h, vs, hv => by
    simp only [decWs] at h
    match vs, hv with
    | [v], hv =>
      obtain ⟨h1, h2⟩ := Sh.dec_ok h hv.1
      exact ⟨⟨h1, trivial⟩, h2⟩
  | s :: t :: l, w :: ws, y, h, vs, hv => by
    simp only [decWs] at h
    split at h
    · rename_i a b ha hb
      simp only [Option.some.injEq] at h; subst h
      match vs, hv with
      | v :: vs, hv =>
        obtain ⟨h1, h2⟩ := Sh.dec_ok ha hv.1
        obtain ⟨h3, h4⟩ := decWs_ok hb hv.2
        exact ⟨⟨h1, h3⟩, h2, h4⟩
    · simp at h
  | [], _ :: _, _, h, _, _ => by simp [decWs] at h
  | [_], [], _, h, _, _ => by simp [decWs] at h
  | [_], _ :: _ :: _, _, h, _, _ => by simp [decWs] at h
  | _ :: _ :: _, [], _, h, _, _ => by simp [decWs] at h
theorem decVs_ok {x : Ctx} {ts : List Sh} {vs : List V} {y : HL ts} (h : decVs ts vs = some y) {args : List Value} (hv : RVs x vs args) : RVs x (encVs ts y) args ∧ okHL ts y := by
  unfold decVs at h
  split at h
  · rename_i ws hws
    rw [unW_eq hws] at hv
    obtain ⟨h1, h2⟩ := decWs_ok h (RWs_of_mapW hv)
    exact ⟨RVs_mapW h1, h2⟩
  · simp at h

/-! ### what a function hands back, frozen -/
def memSt (m : Mem) : St := { slots := [], mem := m, dirty := 0, bd := [], sd := [] }
def freezeWs (s : St) : List W → Option (List W × St)
  | [] => some ([], s)
  | v :: l => match freezeW s v with
    | some (v, s1) => match freezeWs s1 l with
      | some (r, s2) => some (v :: r, s2)
      | none => none
    | none => none
def Rs.out (rs : Rs) (m : Mem) (v : V) : Option rs.den :=
  match rs, v with
  | .one s, .w w => match freezeW (memSt m) w with
    | some (w, _) => s.dec w
    | none => none
  | .tup l, .tup ws => match freezeWs (memSt m) ws with
    | some (ws, _) => decWs l ws
    | none => none
  | _, _ => none
theorem freezeWs_ok {x : Ctx} {w : World} : ∀ {l l' : List W} {s s' : St} {vs : List Value}, MemOk x s.mem w → RWs x l vs → freezeWs s l = some (l', s') →
    ∃ x', MemOk x' s'.mem w ∧ Ext x x' ∧ RWs x' l' vs ∧ SameSl s s'
  | [], l', s, s', vs, hm, hv, h => by
    simp only [freezeWs, Option.some.injEq, Prod.mk.injEq] at h
    obtain ⟨rfl, rfl⟩ := h
    exact ⟨x, hm, Ext.refl x, hv, SameSl.refl s⟩
  | a :: l, l', s, s', v :: vs, hm, hv, h => by
    simp only [freezeWs] at h
    split at h
    · rename_i b s1 h1
      split at h
      · rename_i r s2 h2
        simp only [Option.some.injEq, Prod.mk.injEq] at h
        obtain ⟨rfl, rfl⟩ := h
        obtain ⟨x1, m1, e1, r1, k1⟩ := freezeW_ok hm hv.1 h1
        obtain ⟨x2, m2, e2, r2, k2⟩ := freezeWs_ok m1 (hv.2.mono e1) h2
        exact ⟨x2, m2, e1.trans e2, ⟨r1.mono e2, r2⟩, k1.trans k2⟩
      · simp at h
    · simp at h
  | _ :: _, _, _, _, [], _, hv, _ => hv.elim
theorem Rs.out_ok {x : Ctx} {m : Mem} {w : World} {rs : Rs} {v : V} {y : rs.den} (h : rs.out m v = some y) (hm : MemOk x m w) {u : Value} (hv : RV x v u) :
    ∃ x' m', MemOk x' m' w ∧ Ext x x' ∧ RV x' (rs.enc y) u := by
  cases rs with
  | one s =>
    cases v with
    | w a =>
      simp only [Rs.out] at h
      split at h
      · rename_i a' s' hf
        obtain ⟨x', m1, e1, r1, _⟩ := freezeW_ok (s := memSt m) hm hv hf
        exact ⟨x', _, m1, e1, (Sh.dec_ok h r1).1⟩
      · simp at h
    | tup _ => simp [Rs.out] at h
  | tup l =>
    cases v with
    | w _ => simp [Rs.out] at h
    | tup ws =>
      simp only [Rs.out] at h
      split at h
      · rename_i a' s' hf
        obtain ⟨C, rfl, hC⟩ := hv
        obtain ⟨x', m1, e1, r1, _⟩ := freezeWs_ok (s := memSt m) hm hC hf
        exact ⟨x', _, m1, e1, C, rfl, (decWs_ok h r1).1⟩
      · simp at h

/-! ### functions that leave the caller's memory alone -/
def pureE (ts : List Sh) (rs : Rs) (pre : HL ts → Option Bool) (F : HL ts → rs.den) : Entry :=
  .pure fun vs => match decVs ts vs with
    | some a => some (pre a, rs.enc (F a))
    | none => none
/-- What the executor finds of a function's values. -/
def evVal (E : Env) (fn : Func) (ts : List Sh) (rs : Rs) (a : HL ts) : RT (Option rs.den) := (evFunc E fn (encVs ts a) emptyM).map fun
  | some r => rs.out r.m r.v
  | none => none

theorem pureE_ok {E : Env} (hE : EnvOk E) {f : FuncId} {fn : Func} {c : Code} (hf : E.P.funcs[f]? = some fn) (hb : fn.body = some c) (hl : LoopsOk E c) (hcall : Callable E.P f)
    {ts : List Sh} {rs : Rs} {pre : HL ts → Option Bool} {F : HL ts → rs.den} (h : ∀ a, okHL ts a → pre a ≠ some false → (evVal E fn ts rs a).val = some (F a)) :
    EntryOk E.P f (pureE ts rs pre F) := by
  refine ⟨hcall, fun vs chk v hp hc x m w args hm hv => ?_⟩
  simp only at hp
  split at hp
  · rename_i a ha
    simp only [Option.some.injEq, Prod.mk.injEq] at hp
    obtain ⟨rfl, rfl⟩ := hp
    obtain ⟨hargs, hin⟩ := decVs_ok ha hv
    have h1 := h a hin hc
    unfold evVal at h1
    rw [RT.val_map] at h1
    split at h1
    · rename_i r hr
      have hle : FzLe x (Ctx.own0 w x.fz) := fun _ _ _ e => e
      have hargs' : RVs (Ctx.own0 w x.fz) (encVs ts a) args := RVs_mapW (encWs_ctx hle ts a (RWs_of_mapW hargs))
      have h2 := calls_of_ev hE hf hb hl (own0_ok hm) hargs' hr
      refine h2.mono fun e w' hres => ?_
      obtain ⟨val, x1, rfl, hrv, hm1, hext, hst⟩ := hres
      obtain ⟨x2, m2, hm2, hext2, hrv2⟩ := Rs.out_ok h1 hm1 hrv
      obtain ⟨h3, h4⟩ := back_ok hm (hext.trans hext2) hm2.fz (sameC_of_step hst).1
      exact ⟨val, { x with fz := x2.fz }, rfl, Rs.enc_ctx (x := x2) (x' := { x with fz := x2.fz }) (fun _ _ _ e => e) rs _ hrv2, h3, h4, sameC_of_step hst⟩
    · simp at h1
  · simp at hp

/-- The same, with the whole tree of outcomes told. -/
theorem pureE_tree {E : Env} (hE : EnvOk E) {f : FuncId} {fn : Func} {c : Code} (hf : E.P.funcs[f]? = some fn) (hb : fn.body = some c) (hl : LoopsOk E c) (hcall : Callable E.P f)
    {ts : List Sh} {rs : Rs} {t : HL ts → RT rs.den} (h : ∀ a, evVal E fn ts rs a = (t a).map some) : EntryOk E.P f (pureE ts rs (fun _ => none) (fun a => (t a).val)) :=
  pureE_ok hE hf hb hl hcall fun a _ _ => by rw [h a, RT.val_map]
/-- The same where some ways end in a panic; they are not taken. -/
theorem pureE_part {E : Env} (hE : EnvOk E) {f : FuncId} {fn : Func} {c : Code} (hf : E.P.funcs[f]? = some fn) (hb : fn.body = some c) (hl : LoopsOk E c) (hcall : Callable E.P f)
    {ts : List Sh} {rs : Rs} {pre : HL ts → Option Bool} {t : HL ts → RT (Option rs.den)} {F : HL ts → rs.den} (h : ∀ a, evVal E fn ts rs a = t a)
    (hF : ∀ a, okHL ts a → pre a ≠ some false → (t a).val = some (F a)) : EntryOk E.P f (pureE ts rs pre F) :=
  pureE_ok hE hf hb hl hcall fun a h1 h2 => by rw [h a, hF a h1 h2]

/-- A contract with another function in its place. -/
theorem EntryOk.pure_congr {P : Program} {f : FuncId} {ts : List Sh} {rs : Rs} {pre pre' : HL ts → Option Bool} {F G : HL ts → rs.den} (h : EntryOk P f (pureE ts rs pre F))
    (hp : ∀ a, okHL ts a → pre' a ≠ some false → pre a ≠ some false) (hG : ∀ a, okHL ts a → pre' a ≠ some false → F a = G a) : EntryOk P f (pureE ts rs pre' G) := by
  refine ⟨h.1, fun vs chk v hpv hc x m w args hm hv => ?_⟩
  simp only at hpv
  split at hpv
  · rename_i a ha
    simp only [Option.some.injEq, Prod.mk.injEq] at hpv
    obtain ⟨rfl, rfl⟩ := hpv
    obtain ⟨_, hin⟩ := decVs_ok ha hv
    rw [← hG a hin hc]
    exact h.2 vs (pre a) _ (by simp only [ha]) (hp a hin hc) x m w args hm hv
  · simp at hpv
end Go.S3
