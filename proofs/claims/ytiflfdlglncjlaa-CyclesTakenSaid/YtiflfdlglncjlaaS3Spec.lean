/-
  States as data: what lives across a loop's rounds. Conditions: none (definitions and lemmas).
-/
import Derived.Test.YtiflfdlglncjlaaS3Box
set_option linter.unusedSimpArgs false
set_option linter.unusedVariables false
namespace Go.S3

/-- A cell of a box: data, the current slice of own storage number h, an atom that stays, anything. -/
inductive CS where
  | code (r : R)
  | tip (h : Nat)
  | fix (a : A)
  | junk
/-- A slot. -/
inductive SS where
  | code (s : Sh)
  | tip (h : Nat)
  | fix (a : A)
/-- A storage; fzn: some of its cells may be frozen. -/
structure GS where
  r : R
  T : TypeId
  fzn : Bool
/-- n slots, of which these live; all boxes; all storages. -/
structure LS where
  n : Nat
  slots : List (Nat × SS)
  boxes : List (List CS)
  stgs : List GS

@[reducible] def SD : List (Nat × SS) → Type → Type
  | [], t => t
  | (_, .code s) :: l, t => s.den × SD l t
  | (_, .tip _) :: l, t => SD l t
  | (_, .fix _) :: l, t => SD l t
@[reducible] def CD : List CS → Type → Type
  | [], t => t
  | .code r :: l, t => r.den × CD l t
  | .tip _ :: l, t => CD l t
  | .fix _ :: l, t => CD l t
  | .junk :: l, t => CD l t
@[reducible] def BD : List (List CS) → Type → Type
  | [], t => t
  | c :: l, t => CD c (BD l t)
@[reducible] def GD : List GS → Type
  | [] => Unit
  | g :: l => List g.r.den × GD l
@[reducible] def LS.D (c : LS) : Type := SD c.slots (BD c.boxes (GD c.stgs))

def cellOf (r : R) (y : r.den) : A := match r.enc y with
  | [a] => a
  | _ => .junk
def tlS : (l : List (Nat × SS)) → {t : Type} → SD l t → t
  | [], _, y => y
  | (_, .code _) :: l, _, y => tlS l y.2
  | (_, .tip _) :: l, _, y => tlS l y
  | (_, .fix _) :: l, _, y => tlS l y
def encS (vf : Nat → Nat) : (l : List (Nat × SS)) → {t : Type} → SD l t → List (Nat × V)
  | [], _, _ => []
  | (i, .code s) :: l, _, y => (i, .w (s.enc y.1)) :: encS vf l y.2
  | (i, .tip h) :: l, _, y => (i, .w (.one (.tip h (vf h)))) :: encS vf l y
  | (i, .fix a) :: l, _, y => (i, .w (.one a)) :: encS vf l y
def tlC : (l : List CS) → {t : Type} → CD l t → t
  | [], _, y => y
  | .code _ :: l, _, y => tlC l y.2
  | .tip _ :: l, _, y => tlC l y
  | .fix _ :: l, _, y => tlC l y
  | .junk :: l, _, y => tlC l y
def encC (vf : Nat → Nat) : (l : List CS) → {t : Type} → CD l t → List A
  | [], _, _ => []
  | .code r :: l, _, y => cellOf r y.1 :: encC vf l y.2
  | .tip h :: l, _, y => .tip h (vf h) :: encC vf l y
  | .fix a :: l, _, y => a :: encC vf l y
  | .junk :: l, _, y => .junk :: encC vf l y
def tlB : (l : List (List CS)) → {t : Type} → BD l t → t
  | [], _, y => y
  | c :: l, _, y => tlB l (tlC c y)
def encB (vf : Nat → Nat) : (l : List (List CS)) → {t : Type} → BD l t → List (List A)
  | [], _, _ => []
  | c :: l, _, y => encC vf c y :: encB vf l (tlC c y)
def encG (vf : Nat → Nat) : Nat → (l : List GS) → GD l → List Stg
  | _, [], _ => []
  | h, g :: l, y => { r := g.r, T := g.T, l := y.1, ver := vf h, fzn := g.fzn, ffz := false, lit := false, ub := 0 } :: encG vf (h + 1) l y.2

/-- Atoms that are surely the same. -/
def locsEq : List A → List A → Bool
  | [], [] => true
  | .loc b o :: l, .loc b' o' :: r => Nat.beq b b' && Nat.beq o o' && locsEq l r
  | _, _ => false
def sameFix : A → A → Bool
  | .loc b o, .loc b' o' => Nat.beq b b' && Nat.beq o o'
  | .nilp, .nilp => true
  | .nilsl, .nilsl => true
  | .clo f l, .clo g r => Nat.beq f g && locsEq l r
  | .int true k n, .int true k' n' => sameK k k' && decide (n = n')
  | .bool true b, .bool true b' => b == b'
  | _, _ => false
def locsLt (nb : Nat) : List A → Bool
  | [] => true
  | .loc b _ :: l => Nat.blt b nb && locsLt nb l
  | _ => false
def fixOk (nb : Nat) : A → Bool
  | .loc b _ => Nat.blt b nb
  | .clo _ l => locsLt nb l
  | .nilp | .nilsl | .int true _ _ | .bool true _ => true
  | _ => false
/-- Is the atom the storage's current slice? -/
def isTip (m : Mem) (ns h : Nat) : A → Bool
  | .tip h' v => Nat.beq h h' && Nat.blt h ns && (match stgOf m h v with | some _ => true | none => false)
  | _ => false

def decSl (m : Mem) (nb ns : Nat) (sl : List V) : (l : List (Nat × SS)) → {t : Type} → t → Option (SD l t)
  | [], _, tl => some tl
  | (i, .code s) :: l, _, tl => match nth sl i with
    | some (.w w) => match s.dec w with
      | some a => match decSl m nb ns sl l tl with
        | some b => some (a, b)
        | none => none
      | none => none
    | _ => none
  | (i, .tip h) :: l, _, tl => match nth sl i with
    | some (.w (.one a)) => match isTip m ns h a with
      | true => decSl m nb ns sl l tl
      | false => none
    | _ => none
  | (i, .fix a) :: l, _, tl => match nth sl i with
    | some (.w (.one a')) => match sameFix a a' && fixOk nb a with
      | true => decSl m nb ns sl l tl
      | false => none
    | _ => none
def decC (m : Mem) (nb ns : Nat) : (l : List CS) → {t : Type} → List A → t → Option (CD l t)
  | [], _, [], tl => some tl
  | .code r :: l, _, a :: row, tl => match r.decW [a] with
    | some x => match decC m nb ns l row tl with
      | some b => some (x, b)
      | none => none
    | none => none
  | .tip h :: l, _, a :: row, tl => match isTip m ns h a with
    | true => decC m nb ns l row tl
    | false => none
  | .fix a :: l, _, a' :: row, tl => match sameFix a a' && fixOk nb a with
    | true => decC m nb ns l row tl
    | false => none
  | .junk :: l, _, _ :: row, tl => decC m nb ns l row tl
  | _, _, _, _ => none
def decBx (m : Mem) (nb ns : Nat) : (l : List (List CS)) → {t : Type} → List (List A) → t → Option (BD l t)
  | [], _, _, tl => some tl
  | c :: l, _, row :: bx, tl => match decBx m nb ns l bx tl with
    | some b => decC m nb ns c row b
    | none => none
  | _ :: _, _, [], _ => none
def decG : (l : List GS) → List Stg → Option (GD l)
  | [], _ => some ()
  | g :: l, s :: ss => match R.same s.r g.r with
    | some e => match Nat.beq s.T g.T && (g.fzn || !s.fzn) with
      | true => match decG l ss with
        | some b => some (EqR.cast e.slc s.l, b)
        | none => none
      | false => none
    | none => none
  | _ :: _, [] => none
def LS.dec (c : LS) (s : St) : Option c.D :=
  match Nat.beq (len s.slots) c.n with
  | true => match decG c.stgs s.mem.stgs with
    | some g => match decBx s.mem (len c.boxes) (len c.stgs) c.boxes s.mem.boxes g with
      | some b => decSl s.mem (len c.boxes) (len c.stgs) s.slots c.slots b
      | none => none
    | none => none
  | false => none

def junks : Nat → List V
  | 0 => []
  | n + 1 => .w .junk :: junks n
def fillS (l : List V) : List (Nat × V) → List V
  | [] => l
  | (i, v) :: r => setN (fillS l r) i v
def LS.mem (c : LS) (vf : Nat → Nat) (a : c.D) : Mem := ⟨encB vf c.boxes (tlS c.slots a), encG vf 0 c.stgs (tlB c.boxes (tlS c.slots a))⟩
def LS.st (c : LS) (vf : Nat → Nat) (a : c.D) : St := { slots := fillS (junks c.n) (encS vf c.slots a), mem := c.mem vf a, dirty := 0, bd := [], sd := [] }

/-! ### the context -/
def retagS (vf : Nat → Nat) : Nat → List SI → List SI
  | _, [] => []
  | h, s :: l => { s with ver := vf h } :: retagS vf (h + 1) l
def Ctx.retag (x : Ctx) (nb ns : Nat) (vf : Nat → Nat) : Ctx := { own := x.own, M := firstN nb x.M, S := retagS vf 0 (firstN ns x.S), fz := x.fz }
theorem retagS_nth (vf : Nat → Nat) : ∀ (l : List SI) (k h : Nat), nth (retagS vf k l) h = (nth l h).map fun s => { s with ver := vf (k + h) }
  | [], _, h => by simp [retagS, nth_nil]
  | s :: l, k, 0 => rfl
  | s :: l, k, h + 1 => by
    simp only [retagS, nth, retagS_nth vf l (k + 1) h]
    congr 2; ext; rw [Nat.add_assoc, Nat.add_comm 1]
theorem retagS_len (vf : Nat → Nat) : ∀ (l : List SI) (k : Nat), (retagS vf k l).length = l.length
  | [], _ => rfl
  | _ :: l, k => by simp [retagS, retagS_len vf l]
theorem retag_S {x : Ctx} {nb ns : Nat} {vf : Nat → Nat} {h : Nat} {s : SI} (hs : nth x.S h = some s) (hh : h < ns) : nth (x.retag nb ns vf).S h = some { s with ver := vf h } := by
  show nth (retagS vf 0 (firstN ns x.S)) h = _
  rw [retagS_nth, firstN_nth hh, hs, Nat.zero_add]; rfl
theorem retag_S' {x : Ctx} {nb ns : Nat} {vf : Nat → Nat} {h : Nat} {s' : SI} (hs : nth (x.retag nb ns vf).S h = some s') : ∃ s, nth x.S h = some s ∧ h < ns ∧ s' = { s with ver := vf h } := by
  have hs : nth (retagS vf 0 (firstN ns x.S)) h = some s' := hs
  rw [retagS_nth] at hs
  cases h1 : nth (firstN ns x.S) h with
  | none => rw [h1] at hs; simp at hs
  | some s =>
    rw [h1] at hs
    simp only [Option.map_some, Option.some.injEq, Nat.zero_add] at hs
    obtain ⟨h2, h3⟩ := firstN_some h1
    exact ⟨s, h3, h2, hs.symm⟩
theorem retag_M {x : Ctx} {nb ns : Nat} {vf : Nat → Nat} {b : Nat} (hb : b < nb) : nth (x.retag nb ns vf).M b = nth x.M b := firstN_nth hb
theorem retag_M' {x : Ctx} {nb ns : Nat} {vf : Nat → Nat} {b p : Nat} (hp : nth (x.retag nb ns vf).M b = some p) : b < nb ∧ nth x.M b = some p := firstN_some hp
theorem retag_bare (x : Ctx) (nb ns : Nat) (vf : Nat → Nat) : (x.retag nb ns vf).bare = x.bare := rfl
theorem retag_le (x : Ctx) (nb ns : Nat) (vf : Nat → Nat) : FzLe x (x.retag nb ns vf) := fun _ _ _ e => e

theorem sameFix_eq {a a' : A} (h : sameFix a a' = true) : a = a' := by
  have hl : ∀ l r, locsEq l r = true → l = r := by
    intro l
    induction l with
    | nil => intro r h; cases r <;> simp_all [locsEq]
    | cons b l ih =>
      intro r h
      cases r with
      | nil => cases b <;> simp [locsEq] at h
      | cons c r =>
        cases b <;> cases c <;> simp [locsEq] at h
        obtain ⟨⟨rfl, rfl⟩, h⟩ := h
        rw [ih r h]
  unfold sameFix at h
  split at h <;> simp at h
  · obtain ⟨rfl, rfl⟩ := h; rfl
  · rfl
  · rfl
  · obtain ⟨rfl, h⟩ := h; rw [hl _ _ h]
  · obtain ⟨h, rfl⟩ := h; rw [sameK_eq h]
  · rw [h]

section
variable {x : Ctx} {m : Mem} {w : World} {nb ns : Nat} (vf : Nat → Nat)
theorem RA.fixR {a : A} (hf : fixOk nb a = true) {v : Value} (h : RA x a v) : RA (x.retag nb ns vf) a v := by
  have hl : ∀ l, locsLt nb l = true → ∀ j a, nth l j = some a → ∃ b o, a = .loc b o ∧ b < nb := by
    intro l
    induction l with
    | nil => intro _ j a e; simp [nth_nil] at e
    | cons c l ih =>
      intro h j a e
      cases c <;> simp [locsLt] at h
      cases j with
      | zero => simp only [nth, Option.some.injEq] at e; subst e; exact ⟨_, _, rfl, h.1⟩
      | succ j => exact ih h.2 j a e
  unfold fixOk at hf
  split at hf
  · cases h with
    | loc _ _ _ p hp => exact .loc _ _ _ _ (by rw [retag_M (by simpa using hf)]; exact hp)
  · rename_i f l
    cases h with
    | clo _ _ _ cs c h1 h2 h3 =>
      refine .clo _ _ _ _ c h1 h2 fun j a ha => ?_
      obtain ⟨b, o, rfl, hb⟩ := hl l hf j a ha
      have := h3 j _ ha
      generalize c j = v at this
      cases this with
      | loc _ _ _ p hp => exact .loc _ _ _ _ (by rw [retag_M hb]; exact hp)
  · cases h; exact .nilp _
  · cases h; exact .nilsl _
  · cases h; exact .int _ _ _ _ (by assumption)
  · cases h; exact .bool _ _ _
  · simp at hf
theorem RA.tipR (hm : MemR x m w) {h : Nat} {a : A} (ht : isTip m ns h a = true) {v : Value} (hv : RA x a v) : RA (x.retag nb ns vf) (.tip h (vf h)) v := by
  unfold isTip at ht
  split at ht
  · rename_i h' v'
    simp only [Bool.and_eq_true, Nat.beq_eq, Nat.blt_eq] at ht
    obtain ⟨⟨rfl, h1⟩, h2⟩ := ht
    split at h2
    · rename_i g hg
      obtain ⟨s, hs, hok, rfl⟩ := tip_of hm hv hg
      exact .tip _ _ _ _ _ (retag_S hs h1) (Nat.le_refl _) (fun _ => rfl) hv.atomic
    · simp at h2
  · simp at ht
theorem decSl_ok (hm : MemR x m w) {sl : List V} {t : Array Value} (hf : RF x sl t) : ∀ {l : List (Nat × SS)} {τ : Type} {tl : τ} {a : SD l τ}, decSl m nb ns sl l tl = some a →
    tlS l a = tl ∧ ∀ i v, (i, v) ∈ encS vf l a → RV (x.retag nb ns vf) v (t.getD i undef)
  | [], _, tl, a, h => by
    simp only [decSl, Option.some.injEq] at h; subst h
    exact ⟨rfl, fun i v h => by simp [encS] at h⟩
  | (i, .code s) :: l, _, tl, a, h => by
    simp only [decSl] at h
    split at h
    · rename_i w' hw
      split at h
      · rename_i a1 h1
        split at h
        · rename_i b h2
          simp only [Option.some.injEq] at h; subst h
          obtain ⟨q1, q2⟩ := decSl_ok hm hf h2
          refine ⟨q1, fun j v hj => ?_⟩
          rcases List.mem_cons.1 hj with hj | hj
          · simp only [Prod.mk.injEq] at hj
            obtain ⟨rfl, rfl⟩ := hj
            exact s.enc_ctx (retag_le x nb ns vf) a1 (Sh.dec_ok h1 (hf.slot _ _ hw)).1
          · exact q2 j v hj
        · simp at h
      · simp at h
    · simp at h
  | (i, .tip h0) :: l, _, tl, a, h => by
    simp only [decSl] at h
    split at h
    · rename_i a1 hw
      split at h
      · rename_i ht
        obtain ⟨q1, q2⟩ := decSl_ok hm hf h
        refine ⟨q1, fun j v hj => ?_⟩
        rcases List.mem_cons.1 hj with hj | hj
        · simp only [Prod.mk.injEq] at hj
          obtain ⟨rfl, rfl⟩ := hj
          exact RA.tipR vf hm ht (hf.slot _ _ hw)
        · exact q2 j v hj
      · simp at h
    · simp at h
  | (i, .fix a0) :: l, _, tl, a, h => by
    simp only [decSl] at h
    split at h
    · rename_i a1 hw
      split at h
      · rename_i ht
        simp only [Bool.and_eq_true] at ht
        obtain ⟨q1, q2⟩ := decSl_ok hm hf h
        refine ⟨q1, fun j v hj => ?_⟩
        rcases List.mem_cons.1 hj with hj | hj
        · simp only [Prod.mk.injEq] at hj
          obtain ⟨rfl, rfl⟩ := hj
          have := sameFix_eq ht.1
          subst this
          exact RA.fixR vf ht.2 (hf.slot _ _ hw)
        · exact q2 j v hj
      · simp at h
    · simp at h
theorem cellOf_ok {r : R} {y : r.den} {a : A} (hd : r.decW [a] = some y) {v : Value} (hv : RA x a v) : RA (x.retag nb ns vf) (cellOf r y) v := by
  have h1 := R.decW_ok hd (x := x) (vs := [v]) ⟨hv, trivial⟩
  unfold cellOf
  split
  · rename_i a' ha
    have hp := R.enc_plain r y
    rw [ha] at h1 hp
    exact h1.1.plain (retag_le x nb ns vf) (hp a' (by simp))
  · exact .junk _ _ hv.atomic
theorem decC_ok (hm : MemR x m w) : ∀ {l : List CS} {τ : Type} {row : List A} {tl : τ} {a : CD l τ}, decC m nb ns l row tl = some a →
    tlC l a = tl ∧ (encC vf l a).length = row.length ∧ ∀ C, RL x row C → RL (x.retag nb ns vf) (encC vf l a) C
  | [], _, [], tl, a, h => by
    simp only [decC, Option.some.injEq] at h; subst h
    exact ⟨rfl, rfl, fun C hC => by cases C with | nil => trivial | cons _ _ => exact hC.elim⟩
  | [], _, _ :: _, tl, a, h => by simp [decC] at h
  | .code r :: l, _, [], tl, a, h => by simp [decC] at h
  | .tip _ :: l, _, [], tl, a, h => by simp [decC] at h
  | .fix _ :: l, _, [], tl, a, h => by simp [decC] at h
  | .junk :: l, _, [], tl, a, h => by simp [decC] at h
  | .code r :: l, _, a0 :: row, tl, a, h => by
    simp only [decC] at h
    split at h
    · rename_i y hy
      split at h
      · rename_i b hb
        simp only [Option.some.injEq] at h; subst h
        obtain ⟨q1, q2, q3⟩ := decC_ok hm hb
        refine ⟨q1, by simp [encC, q2], fun C hC => ?_⟩
        match C, hC with
        | v :: C, hC => exact ⟨cellOf_ok vf hy hC.1, q3 C hC.2⟩
      · simp at h
    · simp at h
  | .tip h0 :: l, _, a0 :: row, tl, a, h => by
    simp only [decC] at h
    split at h
    · rename_i ht
      obtain ⟨q1, q2, q3⟩ := decC_ok hm h
      refine ⟨q1, by simp [encC, q2], fun C hC => ?_⟩
      match C, hC with
      | v :: C, hC => exact ⟨RA.tipR vf hm ht hC.1, q3 C hC.2⟩
    · simp at h
  | .fix a1 :: l, _, a0 :: row, tl, a, h => by
    simp only [decC] at h
    split at h
    · rename_i ht
      simp only [Bool.and_eq_true] at ht
      obtain ⟨q1, q2, q3⟩ := decC_ok hm h
      refine ⟨q1, by simp [encC, q2], fun C hC => ?_⟩
      match C, hC with
      | v :: C, hC =>
        have := sameFix_eq ht.1
        subst this
        exact ⟨RA.fixR vf ht.2 hC.1, q3 C hC.2⟩
    · simp at h
  | .junk :: l, _, a0 :: row, tl, a, h => by
    simp only [decC] at h
    obtain ⟨q1, q2, q3⟩ := decC_ok hm h
    refine ⟨q1, by simp [encC, q2], fun C hC => ?_⟩
    match C, hC with
    | v :: C, hC => exact ⟨.junk _ _ hC.1.atomic, q3 C hC.2⟩
theorem decB_ok (hm : MemR x m w) : ∀ {l : List (List CS)} {τ : Type} {bx : List (List A)} {tl : τ} {a : BD l τ}, decBx m nb ns l bx tl = some a →
    tlB l a = tl ∧ (encB vf l a).length = l.length ∧ l.length ≤ bx.length ∧ ∀ b row, nth (encB vf l a) b = some row → ∃ row0, nth bx b = some row0 ∧ row.length = row0.length ∧ ∀ C, RL x row0 C → RL (x.retag nb ns vf) row C
  | [], _, bx, tl, a, h => by
    simp only [decBx, Option.some.injEq] at h; subst h
    exact ⟨rfl, rfl, Nat.zero_le _, fun b row e => by simp [encB, nth_nil] at e⟩
  | c :: l, _, row :: bx, tl, a, h => by
    simp only [decBx] at h
    split at h
    · rename_i b0 hb
      obtain ⟨q1, q2, q3, q4⟩ := decB_ok hm hb
      obtain ⟨p1, p2, p3⟩ := decC_ok (vf := vf) hm h
      refine ⟨by simp only [tlB, p1, q1], by simp only [encB, p1, List.length_cons, q2], by simp [q3], fun b row' e => ?_⟩
      simp only [encB, p1] at e
      cases b with
      | zero =>
        simp only [nth, Option.some.injEq] at e; subst e
        exact ⟨row, rfl, p2, p3⟩
      | succ b => exact q4 b row' e
    · simp at h
  | c :: l, _, [], tl, a, h => by simp [decBx] at h
end

theorem decG_ok {x : Ctx} {w : World} {nb ns : Nat} (vf : Nat → Nat) : ∀ {l : List GS} {ss : List Stg} {a : GD l} (k : Nat), decG l ss = some a →
    (encG vf k l a).length = l.length ∧ l.length ≤ ss.length ∧ ∀ h g', nth (encG vf k l a) h = some g' → ∃ g, nth ss h = some g ∧ ∀ s, StgOk x g s w → StgOk (x.retag nb ns vf) g' { s with ver := vf (k + h) } w
  | [], ss, a, k, h => ⟨rfl, Nat.zero_le _, fun i g e => by simp [encG, nth_nil] at e⟩
  | g :: l, s :: ss, a, k, h => by
    simp only [decG] at h
    split at h
    · rename_i e he
      split at h
      · rename_i hc
        split at h
        · rename_i b hb
          simp only [Option.some.injEq] at h; subst h
          obtain ⟨q1, q2, q3⟩ := decG_ok (x := x) (w := w) (nb := nb) (ns := ns) vf (k + 1) hb
          refine ⟨by simp [encG, q1], by simp [q2], fun i g' hg => ?_⟩
          cases i with
          | zero =>
            simp only [encG, nth, Option.some.injEq] at hg; subst hg
            refine ⟨s, rfl, fun si hok => ?_⟩
            obtain ⟨sr, sT, sl, sver, sfzn, sffz, slit, sub⟩ := s
            simp only [Bool.and_eq_true, Nat.beq_eq, Bool.or_eq_true, Bool.not_eq_true'] at hc he
            obtain ⟨gr, gT, gfzn⟩ := g
            simp only at hc he e hok
            obtain ⟨rfl, hfz⟩ := hc
            cases e
            refine ⟨by simp, hok.n, hok.wd, hok.nil, hok.row, fun hff => ?_, fun hff => by simp at hff, fun hff => by simp at hff⟩
            simp only at hff
            rw [hff] at hfz
            exact hok.fzn (by simpa using hfz)
          | succ i =>
            simp only [encG, nth] at hg
            obtain ⟨g0, e1, e2⟩ := q3 i g' hg
            refine ⟨g0, e1, fun si hok => ?_⟩
            have := e2 si hok
            rwa [Nat.add_assoc, Nat.add_comm 1] at this
        · simp at h
      · simp at h
    · simp at h
  | g :: l, [], a, k, h => by simp [decG] at h

theorem junks_len : ∀ n, (junks n).length = n
  | 0 => rfl
  | n + 1 => by simp [junks, junks_len n]
theorem fillS_len (l : List V) : ∀ r, (fillS l r).length = l.length
  | [] => rfl
  | (i, v) :: r => by simp [fillS, setN_eq, fillS_len l r]
theorem fillS_nth {l : List V} : ∀ (r : List (Nat × V)) (i : Nat) (v : V), nth (fillS l r) i = some v → nth l i = some v ∨ (i, v) ∈ r
  | [], i, v, h => .inl h
  | (j, u) :: r, i, v, h => by
    simp only [fillS] at h
    by_cases e : j = i
    · subst e
      have hlt := nth_lt h
      rw [setN_eq] at h hlt
      rw [nth_eq, List.getElem?_set_self (by simpa using hlt)] at h
      simp only [Option.some.injEq] at h; subst h
      exact .inr (by simp)
    · rw [nth_eq, setN_eq, List.getElem?_set_ne e, ← nth_eq] at h
      exact (fillS_nth r i v h).imp id (fun h => by simp [h])
theorem junks_nth : ∀ (n i : Nat) (v : V), nth (junks n) i = some v → v = .w .junk
  | 0, i, v, h => by simp [junks, nth_nil] at h
  | n + 1, 0, v, h => by simp [junks, nth] at h; exact h.symm
  | n + 1, i + 1, v, h => junks_nth n i v h

theorem LS.dec_some {c : LS} {s : St} {a : c.D} (h : c.dec s = some a) : s.slots.length = c.n ∧ ∃ g b, decG c.stgs s.mem.stgs = some g ∧ decBx s.mem (len c.boxes) (len c.stgs) c.boxes s.mem.boxes g = some b ∧
    decSl s.mem (len c.boxes) (len c.stgs) s.slots c.slots b = some a := by
  unfold LS.dec at h
  split at h
  · rename_i hn
    simp only [Nat.beq_eq, len_eq] at hn
    split at h
    · rename_i g hg
      split at h
      · rename_i b hb
        exact ⟨hn, g, b, hg, hb, h⟩
      · simp at h
    · simp at h
  · simp at h
/-- A state that reads as data is, with fewer boxes and slices and other versions, the state of these data. -/
theorem LS.dec_ok {c : LS} {s : St} {a : c.D} (h : c.dec s = some a) {x : Ctx} {t : Array Value} {w : World} (hm : MemOk x s.mem w) (hf : RF x s.slots t) (vf : Nat → Nat) :
    MemOk (x.retag (len c.boxes) (len c.stgs) vf) (c.mem vf a) w ∧ RF (x.retag (len c.boxes) (len c.stgs) vf) (c.st vf a).slots t := by
  obtain ⟨hn, g, b, h1, h2, h3⟩ := LS.dec_some h
  obtain ⟨s1, s2⟩ := decSl_ok (nb := len c.boxes) (ns := len c.stgs) vf hm.toR hf h3
  obtain ⟨b1, b2, b3, b4⟩ := decB_ok (nb := len c.boxes) (ns := len c.stgs) vf hm.toR h2
  obtain ⟨g1, g2, g3⟩ := decG_ok (x := x) (w := w) (nb := len c.boxes) (ns := len c.stgs) vf 0 h1
  have hml := hm.ml
  have hsl := hm.sl
  refine ⟨⟨hm.fresh, hm.fz, ?_, fun b' l p hb hp => ?_, fun b' p hp => ?_, fun b' b'' p hp hp' => ?_, ?_, fun i g' s' hg hs => ?_, fun i s' p cap hs hb => ?_, fun i i' s' s'' p cap cap' hs hs' hb hb' => ?_⟩, ?_, fun i v hv => ?_⟩
  · show (firstN _ x.M).length = (encB vf c.boxes (tlS c.slots a)).length
    rw [s1, b2, firstN_len (by rw [len_eq, hml]; exact b3), len_eq]
  · have hb : nth (encB vf c.boxes (tlS c.slots a)) b' = some l := hb
    rw [s1] at hb
    obtain ⟨row0, q1, _, q2⟩ := b4 b' l hb
    obtain ⟨C, T, e1, e2⟩ := hm.box b' row0 p q1 (retag_M' hp).2
    exact ⟨C, T, e1, q2 C e2⟩
  · exact hm.mown b' p (retag_M' hp).2
  · exact hm.inj b' b'' p (retag_M' hp).2 (retag_M' hp').2
  · show (retagS vf 0 (firstN _ x.S)).length = (encG vf 0 c.stgs (tlB c.boxes (tlS c.slots a))).length
    rw [s1, b1, g1, retagS_len, firstN_len (by rw [len_eq, hsl]; exact g2), len_eq]
  · have hg : nth (encG vf 0 c.stgs (tlB c.boxes (tlS c.slots a))) i = some g' := hg
    rw [s1, b1] at hg
    obtain ⟨g0, q1, q2⟩ := g3 i g' hg
    obtain ⟨s0, e1, e2, rfl⟩ := retag_S' hs
    have := q2 s0 (hm.stg i g0 s0 q1 e1)
    rwa [Nat.zero_add] at this
  · obtain ⟨s0, e1, e2, rfl⟩ := retag_S' hs
    obtain ⟨q1, q2⟩ := hm.sown i s0 p cap e1 hb
    exact ⟨q1, fun b' hp => q2 b' (retag_M' hp).2⟩
  · obtain ⟨s0, e1, e2, rfl⟩ := retag_S' hs
    obtain ⟨s0', e1', e2', rfl⟩ := retag_S' hs'
    exact hm.sinj i i' s0 s0' p cap cap' e1 e1' hb hb'
  · simp [LS.st, fillS_len, junks_len, ← hn, hf.size]
  · rcases fillS_nth _ _ _ hv with hv | hv
    · rw [junks_nth _ _ _ hv]; trivial
    · exact s2 i v hv
end Go.S3
