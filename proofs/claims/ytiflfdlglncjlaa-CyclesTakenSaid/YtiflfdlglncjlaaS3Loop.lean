/-
  Loops: what a loop does, told by a function on data. Conditions: none (definitions and lemmas).
-/
import Derived.Test.YtiflfdlglncjlaaS3Spec
set_option linter.unusedSimpArgs false
set_option linter.unusedVariables false
namespace Go.S3

/-! ### ranges of the data -/
def okSD : (l : List (Nat × SS)) → {t : Type} → SD l t → (t → Prop) → Prop
  | [], _, y, p => p y
  | (_, .code s) :: l, _, y, p => s.ok y.1 ∧ okSD l y.2 p
  | (_, .tip _) :: l, _, y, p => okSD l y p
  | (_, .fix _) :: l, _, y, p => okSD l y p
def okCD : (l : List CS) → {t : Type} → CD l t → (t → Prop) → Prop
  | [], _, y, p => p y
  | .code r :: l, _, y, p => r.ok y.1 ∧ okCD l y.2 p
  | .tip _ :: l, _, y, p => okCD l y p
  | .fix _ :: l, _, y, p => okCD l y p
  | .junk :: l, _, y, p => okCD l y p
def okBD : (l : List (List CS)) → {t : Type} → BD l t → (t → Prop) → Prop
  | [], _, y, p => p y
  | c :: l, _, y, p => okCD c y (fun z => okBD l z p)
def okGD : (l : List GS) → GD l → Prop
  | [], _ => True
  | g :: l, y => (R.sl g.r).ok y.1 ∧ okGD l y.2
def LS.ok (c : LS) (a : c.D) : Prop := okSD c.slots a fun b => okBD c.boxes b (okGD c.stgs)

theorem stg_ok_of {x : Ctx} {g : Stg} {s : SI} {w : World} (h : StgOk x g s w) : (R.sl g.r).ok g.l := by
  cases hb : s.blk with
  | none =>
    have := (h.nil hb).1
    rw [h.n] at this
    have hl : g.l = [] := List.length_eq_zero_iff.1 this
    refine ⟨by rw [hl]; simp, fun a ha => by rw [hl] at ha; simp at ha⟩
  | some q =>
    obtain ⟨p, cap⟩ := q
    obtain ⟨C, c1, c2, c3, c4, c5, c6, c7, c8⟩ := h.row p cap hb
    refine ⟨by have := h.n; omega, fun a ha => ?_⟩
    obtain ⟨i, hi⟩ := List.getElem?_of_mem ha
    have hlt := (List.getElem?_eq_some_iff.1 hi).1
    have he : elN g.r g.l i = g.r.enc a := by simp [elN, List.getD_eq_getElem?_getD, hi]
    refine R.ok_of g.r a x.bare ((C.drop (i * g.r.wid)).take g.r.wid) (RL.of_nth ?_ fun j b hb => ?_)
    · have : (i + 1) * g.r.wid ≤ cap * g.r.wid := Nat.mul_le_mul_right _ (by have := h.n; omega)
      rw [R.enc_len, List.length_take, List.length_drop, c2]
      rw [Nat.succ_mul] at this; omega
    · obtain ⟨v, e1, e2⟩ := c5 i j b (by rw [h.n]; exact hlt) (by rw [he]; exact hb)
      have hj : j < g.r.wid := by have := nth_lt hb; rwa [R.enc_len] at this
      exact ⟨v, by rw [List.getElem?_take, if_pos hj, List.getElem?_drop]; exact e1, e2⟩
section
variable {x : Ctx} {m : Mem} {w : World} {nb ns : Nat}
theorem decSl_in {sl : List V} {t : Array Value} (hf : RF x sl t) {τ : Type} {p : τ → Prop} : ∀ {l : List (Nat × SS)} {tl : τ} {a : SD l τ}, decSl m nb ns sl l tl = some a → p tl → okSD l a p
  | [], tl, a, h, hp => by
    simp only [decSl, Option.some.injEq] at h; subst h; exact hp
  | (i, .code s) :: l, tl, a, h, hp => by
    simp only [decSl] at h
    split at h
    · rename_i w' hw
      split at h
      · rename_i a1 h1
        split at h
        · rename_i b h2
          simp only [Option.some.injEq] at h; subst h
          exact ⟨(Sh.dec_ok h1 (hf.slot _ _ hw)).2, decSl_in hf h2 hp⟩
        · simp at h
      · simp at h
    · simp at h
  | (i, .tip h0) :: l, tl, a, h, hp => by
    simp only [decSl] at h
    split at h
    · split at h
      · exact decSl_in (l := l) hf h hp
      · simp at h
    · simp at h
  | (i, .fix a0) :: l, tl, a, h, hp => by
    simp only [decSl] at h
    split at h
    · split at h
      · exact decSl_in (l := l) hf h hp
      · simp at h
    · simp at h
theorem decC_in {τ : Type} {p : τ → Prop} : ∀ {l : List CS} {row : List A} {tl : τ} {a : CD l τ}, decC m nb ns l row tl = some a → (∃ C, RL x row C) → p tl → okCD l a p
  | [], [], tl, a, h, _, hp => by
    simp only [decC, Option.some.injEq] at h; subst h; exact hp
  | [], _ :: _, tl, a, h, _, _ => by simp [decC] at h
  | .code r :: l, [], tl, a, h, _, _ => by simp [decC] at h
  | .tip _ :: l, [], tl, a, h, _, _ => by simp [decC] at h
  | .fix _ :: l, [], tl, a, h, _, _ => by simp [decC] at h
  | .junk :: l, [], tl, a, h, _, _ => by simp [decC] at h
  | .code r :: l, a0 :: row, tl, a, h, hC, hp => by
    obtain ⟨C, hC⟩ := hC
    simp only [decC] at h
    split at h
    · rename_i y hy
      split at h
      · rename_i b hb
        simp only [Option.some.injEq] at h; subst h
        match C, hC with
        | v :: C, hC => exact ⟨R.ok_of r y x [v] (R.decW_ok hy ⟨hC.1, trivial⟩), decC_in hb ⟨C, hC.2⟩ hp⟩
      · simp at h
    · simp at h
  | .tip h0 :: l, a0 :: row, tl, a, h, hC, hp => by
    obtain ⟨C, hC⟩ := hC
    simp only [decC] at h
    split at h
    · match C, hC with
      | v :: C, hC => exact decC_in (l := l) h ⟨C, hC.2⟩ hp
    · simp at h
  | .fix a1 :: l, a0 :: row, tl, a, h, hC, hp => by
    obtain ⟨C, hC⟩ := hC
    simp only [decC] at h
    split at h
    · match C, hC with
      | v :: C, hC => exact decC_in (l := l) h ⟨C, hC.2⟩ hp
    · simp at h
  | .junk :: l, a0 :: row, tl, a, h, hC, hp => by
    obtain ⟨C, hC⟩ := hC
    simp only [decC] at h
    match C, hC with
    | v :: C, hC => exact decC_in (l := l) h ⟨C, hC.2⟩ hp
theorem decB_in {τ : Type} {p : τ → Prop} : ∀ {l : List (List CS)} {bx : List (List A)} {tl : τ} {a : BD l τ}, decBx m nb ns l bx tl = some a → (∀ b row, nth bx b = some row → ∃ C, RL x row C) → p tl → okBD l a p
  | [], bx, tl, a, h, _, hp => by
    simp only [decBx, Option.some.injEq] at h; subst h; exact hp
  | c :: l, row :: bx, tl, a, h, hC, hp => by
    simp only [decBx] at h
    split at h
    · rename_i b0 hb
      exact decC_in h (hC 0 row rfl) (decB_in hb (fun b row e => hC (b + 1) row e) hp)
    · simp at h
  | c :: l, [], tl, a, h, _, _ => by simp [decBx] at h
theorem decG_in : ∀ {l : List GS} {ss : List Stg} {a : GD l}, decG l ss = some a → (∀ g ∈ ss, (R.sl g.r).ok g.l) → okGD l a
  | [], ss, a, h, _ => trivial
  | g :: l, s :: ss, a, h, hs => by
    simp only [decG] at h
    split at h
    · rename_i e he
      split at h
      · split at h
        · rename_i b hb
          simp only [Option.some.injEq] at h; subst h
          refine ⟨?_, decG_in hb (fun g hg => hs g (by simp [hg]))⟩
          have := hs s (by simp)
          obtain ⟨sr, sT, sl, sver, sfzn, sffz, slit, sub⟩ := s
          obtain ⟨gr, gT, gfzn⟩ := g
          simp only at e he this
          cases e
          exact this
        · simp at h
      · simp at h
    · simp at h
  | g :: l, [], a, h, _ => by simp [decG] at h
end
theorem LS.dec_in {c : LS} {s : St} {a : c.D} (h : c.dec s = some a) {x : Ctx} {t : Array Value} {w : World} (hm : MemOk x s.mem w) (hf : RF x s.slots t) : c.ok a := by
  obtain ⟨hn, g, b, h1, h2, h3⟩ := LS.dec_some h
  refine decSl_in hf h3 (decB_in (x := x) h2 (fun b row hb => ?_) (decG_in h1 fun g hg => ?_))
  · obtain ⟨p, hp⟩ := hm.M_of hb
    obtain ⟨C, T, _, e2⟩ := hm.box b row p hb hp
    exact ⟨C, e2⟩
  · obtain ⟨i, hi⟩ := List.getElem?_of_mem hg
    rw [← nth_eq] at hi
    obtain ⟨s0, hs0⟩ := hm.S_of hi
    exact stg_ok_of (hm.stg i g s0 hi hs0)

/-! ### slices that are nil so far -/
def openG : List GS → List Stg
  | [] => []
  | g :: l => { r := g.r, T := g.T, l := [], ver := 0, fzn := false, ffz := false, lit := true, ub := 1 } :: openG l
def openS (lo hi : Nat) : List (Nat × SS) → List V → List V
  | [], sl => sl
  | (i, .tip h) :: l, sl => match !Nat.blt h lo && Nat.blt h hi with
    | true => match nth sl i with
      | some (.w (.one .nilsl)) => openS lo hi l (setN sl i (.w (.one (.tip h 0))))
      | _ => openS lo hi l sl
    | false => openS lo hi l sl
  | (_, .code _) :: l, sl => openS lo hi l sl
  | (_, .fix _) :: l, sl => openS lo hi l sl
def openSt (c : LS) (s : St) : St := { s with slots := openS (len s.mem.stgs) (len s.mem.stgs + len (openG (dropN (len s.mem.stgs) c.stgs))) c.slots s.slots, mem := { s.mem with stgs := s.mem.stgs ++ openG (dropN (len s.mem.stgs) c.stgs) } }

def nilSI (r : R) : SI := { blk := none, na := none, n := 0, w := r.wid, ver := 0, fc := 0 }
theorem openG_ok {w : World} : ∀ (l : List GS) {x : Ctx} {m : Mem}, MemOk x m w → ∃ ss : List SI, MemOk { x with S := x.S ++ ss } { m with stgs := m.stgs ++ openG l } w ∧ Ext x { x with S := x.S ++ ss } ∧ ss.length = (openG l).length ∧ ∀ s ∈ ss, s.ver = 0 ∧ tipVal s = .slice none 0 0
  | [], x, m, hm => ⟨[], by simpa [openG] using hm, by simpa using Ext.refl x, rfl, fun s h => by simp at h⟩
  | g :: l, x, m, hm => by
    have h1 := hm.addS (g := { r := g.r, T := g.T, l := [], ver := 0, fzn := false, ffz := false, lit := true, ub := 1 }) (s := nilSI g.r) (OldSame.refl w) (fun p cap h => by simp [nilSI] at h)
      ⟨rfl, rfl, rfl, fun _ => ⟨rfl, rfl⟩, fun p cap h => by simp [nilSI] at h, fun _ => rfl, fun h => by simp at h, fun _ => by simp⟩
    obtain ⟨ss, q1, q2, q3, q4⟩ := openG_ok l h1.1
    refine ⟨nilSI g.r :: ss, ?_, ?_, by simp [openG, q3], fun s hs => ?_⟩
    · simpa [openG] using q1
    · have := h1.2.trans q2
      simpa using this
    · rcases List.mem_cons.1 hs with rfl | hs
      · exact ⟨rfl, rfl⟩
      · exact q4 s hs
theorem openS_ok {x : Ctx} {lo hi : Nat} (hS : ∀ h, lo ≤ h → h < hi → ∃ s, nth x.S h = some s ∧ s.ver = 0 ∧ tipVal s = .slice none 0 0) {t : Array Value} : ∀ (l : List (Nat × SS)) {sl : List V}, RF x sl t → RF x (openS lo hi l sl) t
  | [], sl, hf => hf
  | (i, .tip h) :: l, sl, hf => by
    simp only [openS]
    split
    · rename_i hb
      simp only [Bool.and_eq_true, Bool.not_eq_true', Nat.blt_eq] at hb
      split
      · rename_i hi
        refine openS_ok hS l (hf.retag i ?_)
        have hlo : lo ≤ h := by
          have := hb.1
          rw [Bool.eq_false_iff, Ne, Nat.blt_eq] at this; omega
        obtain ⟨s, e1, e2, e3⟩ := hS h hlo hb.2
        have hv : RA x .nilsl (t.getD i undef) := hf.slot i _ hi
        have : t.getD i undef = .slice none 0 0 := by
          generalize t.getD i undef = v at hv
          cases hv; rfl
        rw [this]
        exact RA.tip _ _ _ s _ e1 (Nat.zero_le _) (fun _ => e3.symm) trivial
      · exact openS_ok hS l hf
    · exact openS_ok hS l hf
  | (_, .code _) :: l, sl, hf => openS_ok (sl := sl) hS l hf
  | (_, .fix _) :: l, sl, hf => openS_ok (sl := sl) hS l hf
theorem openSt_ok (c : LS) {x0 x : Ctx} {w0 w : World} {s : St} {a : Act} (hr : RelH x0 w0 x s a w) : ∃ x', RelH x0 w0 x' (openSt c s) a w ∧ Ext x x' := by
  obtain ⟨ss, q1, q2, q3, q4⟩ := openG_ok (dropN (len s.mem.stgs) c.stgs) hr.r.m
  refine ⟨_, ⟨⟨openS_ok (fun h h1 h2 => ?_) _ (hr.r.f.mono q2), q1, hr.r.d⟩, hr.e.trans q2, hr.t⟩, q2⟩
  have hsl := hr.r.m.sl
  rw [len_eq (openG _), ← q3] at h2
  rw [len_eq] at h1 h2
  have : nth (x.S ++ ss) h = some (ss[h - s.mem.stgs.length]'(by omega)) := by
    rw [nth_eq, List.getElem?_append_right (by omega), hsl, List.getElem?_eq_getElem (by omega)]
  exact ⟨_, this, q4 _ (List.getElem_mem _)⟩

/-! ### rounds -/
/-- How a round ends. -/
inductive Go1 (α : Type) where
  | cont (a : α)
  | brk (a : α)
  | ret (a : α)
def classify (id : Nat) (c : LS) (o : Out) : Option (Go1 c.D) :=
  match c.dec o.s with
  | none => none
  | some a => match o.k with
    | .normal => some (.cont a)
    | .exit i => match Nat.beq i id with
      | true => some (.brk a)
      | false => none
    | .ret => some (.ret a)
    | .stop => none
/-- What a round does. -/
def roundOf (E : Env) (b : Code) (id : Nat) (c : LS) (a : c.D) : RT (Option (Go1 c.D)) := (evCode E b (c.st (fun _ => 0) a)).map (classify id c)
/-- Rounds, as many as there are; does it end by a return, and with what? -/
def runL {α : Type} (f : α → Option (Go1 α)) : Nat → α → Option (Bool × α)
  | 0, _ => none
  | n + 1, a => match f a with
    | some (.cont a') => runL f n a'
    | some (.brk a') => some (false, a')
    | some (.ret a') => some (true, a')
    | none => none

def allN : Nat → List Nat
  | 0 => []
  | n + 1 => n :: allN n
def allBD (bd : List (Nat × Nat)) : Nat → List (List A) → List (Nat × Nat)
  | _, [] => bd
  | b, l :: r => allBD (addBD bd b 0 (len l)) (b + 1) r
def vfB (s : St) (h : Nat) : Nat := match nth s.mem.stgs h with
  | some g => g.ver + 1
  | none => 1
/-- The state behind the loop. -/
def behind (c : LS) (s : St) (a : c.D) : St :=
  { c.st (vfB s) a with dirty := Nat.lor s.dirty (allB c.n), bd := allBD s.bd 0 s.mem.boxes, sd := joinN s.sd (allN (len s.mem.stgs)) }
/-- A loop's oracle: 'res a' tells how it ends (true: by a return) and with what. fl: may it end by a return? -/
def oraOf (fl : Bool) (c : LS) (chk : c.D → Option Bool) (res : c.D → Bool × c.D) : Ora := fun s =>
  match Nat.beq (len s.mem.boxes) (len c.boxes) && Nat.ble (len s.mem.stgs) (len c.stgs) with
  | false => stopT s
  | true => match c.dec (openSt c s) with
    | none => stopT s
    | some a => chkT (chk a) s (match fl with
      | true => .br (res a).1 (.leaf ⟨.ret, behind c s (res a).2⟩) (.leaf ⟨.normal, behind c s (res a).2⟩)
      | false => .leaf ⟨.normal, behind c s (res a).2⟩)

theorem memN_allN : ∀ n i, memN (allN n) i = true ↔ i < n
  | 0, i => by simp [allN, memN]
  | n + 1, i => by
    simp only [allN, memN, Bool.or_eq_true, Nat.beq_eq, memN_allN n i]; omega
theorem memP_allBD : ∀ (bx : List (List A)) (bd : List (Nat × Nat)) (k b j : Nat), memP (allBD bd k bx) b j = false → memP bd b j = false ∧ ∀ l, k ≤ b → nth bx (b - k) = some l → l.length ≤ j
  | [], bd, k, b, j, h => ⟨h, fun l _ hl => by simp [nth_nil] at hl⟩
  | l0 :: r, bd, k, b, j, h => by
    simp only [allBD] at h
    obtain ⟨h1, h2⟩ := memP_allBD r _ (k + 1) b j h
    rw [memP_addBD, Bool.or_eq_false_iff] at h1
    refine ⟨h1.1, fun l hk hl => ?_⟩
    by_cases e : b = k
    · subst e
      simp only [Nat.sub_self, nth, Option.some.injEq] at hl
      subst hl
      have := h1.2
      simp [len_eq] at this; omega
    · have e2 : b - k = (b - (k + 1)) + 1 := by omega
      rw [e2] at hl
      exact h2 l (by omega) hl

/-- y comes from x by rounds: more is frozen, versions are others. -/
structure Mid (x y : Ctx) : Prop where
  own : y.own = x.own
  M : ∀ b p, nth x.M b = some p → nth y.M b = some p
  S : ∀ h s, nth x.S h = some s → ∃ s', nth y.S h = some s'
  fz : ∀ b o v, x.fz b o = some v → y.fz b o = some v
  new : ∀ b o v, y.fz b o = some v → x.fz b o = some v ∨ x.own b
theorem Mid.refl (x : Ctx) : Mid x x := ⟨rfl, fun _ _ e => e, fun _ s e => ⟨s, e⟩, fun _ _ _ e => e, fun _ _ _ e => .inl e⟩
theorem Mid.ext {x y z : Ctx} (h : Mid x y) (k : Ext y z) : Mid x z :=
  ⟨k.own.trans h.own, fun b p e => k.M b p (h.M b p e), fun i s e => let ⟨s', e'⟩ := h.S i s e; let ⟨s2, e2, _⟩ := k.S i s' e'; ⟨s2, e2⟩, fun b o v e => k.fz b o v (h.fz b o v e),
    fun b o v e => (k.new b o v e).elim (h.new b o v) fun e => .inr (h.own ▸ e)⟩
theorem Mid.retag {x y : Ctx} (h : Mid x y) {nb ns : Nat} (hb : x.M.length ≤ nb) (hs : x.S.length ≤ ns) (vf : Nat → Nat) : Mid x (y.retag nb ns vf) :=
  ⟨h.own, fun b p e => by rw [retag_M (by have := nth_lt e; omega)]; exact h.M b p e, fun i s e => by
    obtain ⟨s', e'⟩ := h.S i s e
    exact ⟨_, retag_S e' (by have := nth_lt e; omega)⟩, h.fz, h.new⟩

theorem rounds_run {E : Env} (hE : EnvOk E) {id : Nat} {b : Code} (hl : LoopsOk E b) {c : LS} {x : Ctx} {w0 : World} (hb : x.M.length ≤ len c.boxes) (hs : x.S.length ≤ len c.stgs) {Q : Exit → Act → World → Prop} {r : Bool × c.D}
    (fin : ∀ (y : Ctx) (s : St) (act : Act) (w : World), Mid x y → c.dec s = some r.2 → RF y s.slots act.tmps → MemOk y s.mem w → act.defers = [] → Step x w0 w → Q (match r.1 with | true => .ret | false => .normal) act w) :
    ∀ (n : Nat) (a : c.D) (y : Ctx) (act : Act) (w : World), Mid x y → RF y (c.st (fun _ => 0) a).slots act.tmps → MemOk y (c.mem (fun _ => 0) a) w → act.defers = [] → Step x w0 w →
      runL (fun a => (roundOf E b id c a).val) n a = some r → Code.rounds E.P b (Exit.inBlock id Q) n act w
  | 0, a, y, act, w, _, _, _, _, _, h => by simp [runL] at h
  | n + 1, a, y, act, w, hx, hf, hm, hd, ht, h => by
    rw [rounds_succ]
    refine evCode_ok hE b hl (x0 := y) (w0 := w) y (c.st (fun _ => 0) a) act w _ ⟨⟨hf, hm, hd⟩, Ext.refl y, Step.refl y w⟩ fun y2 act2 w2 hr2 _ => ?_
    unfold runL roundOf at h
    rw [RT.val_map] at h
    generalize (evCode E b (c.st (fun _ => 0) a)).val = o at *
    have hx2 := hx.ext hr2.e
    have ht2 : Step x w0 w2 := ht.trans hr2.t hx.own
    unfold classify at h
    cases hdec : c.dec o.s with
    | none => rw [hdec] at h; simp at h
    | some a' =>
      rw [hdec] at h
      simp only at h
      cases hk : o.k with
      | normal =>
        rw [hk] at h
        simp only at h
        obtain ⟨m3, f3⟩ := LS.dec_ok hdec hr2.r.m hr2.r.f (fun _ => 0)
        exact rounds_run hE hl hb hs fin n a' _ act2 w2 (hx2.retag hb hs _) f3 m3 hr2.r.d ht2 h
      | exit i =>
        rw [hk] at h
        simp only at h
        by_cases hi : i = id
        · subst hi
          simp only [Nat.beq_refl, Option.some.injEq] at h
          have := fin y2 o.s act2 w2 hx2 (by rw [← h]; exact hdec) hr2.r.f hr2.r.m hr2.r.d ht2
          rw [← h] at this
          simpa [QK, Exit.then, Exit.inBlock] using this
        · have : Nat.beq i id = false := by rw [Bool.eq_false_iff]; intro e; rw [Nat.beq_eq] at e; exact hi e
          rw [this] at h
          simp at h
      | ret =>
        rw [hk] at h
        simp only [Option.some.injEq] at h
        have := fin y2 o.s act2 w2 hx2 (by rw [← h]; exact hdec) hr2.r.f hr2.r.m hr2.r.d ht2
        rw [← h] at this
        simpa [QK, Exit.then, Exit.inBlock] using this
      | stop => rw [hk] at h; simp at h

theorem encC_len (vf : Nat → Nat) : ∀ (l : List CS) {t : Type} (y : CD l t), (encC vf l y).length = l.length
  | [], _, _ => rfl
  | .code _ :: l, _, y => by simp [encC, encC_len vf l y.2]
  | .tip _ :: l, _, y => by simp only [encC, List.length_cons]; rw [encC_len vf l y]
  | .fix _ :: l, _, y => by simp only [encC, List.length_cons]; rw [encC_len vf l y]
  | .junk :: l, _, y => by simp only [encC, List.length_cons]; rw [encC_len vf l y]
theorem encB_len (vf : Nat → Nat) : ∀ (l : List (List CS)) {t : Type} (y : BD l t), (encB vf l y).length = l.length ∧ ∀ b r, nth (encB vf l y) b = some r → ∃ c, nth l b = some c ∧ r.length = c.length
  | [], _, _ => ⟨rfl, fun b r h => by simp [encB, nth_nil] at h⟩
  | c :: l, _, y => by
    obtain ⟨h1, h2⟩ := encB_len vf l (tlC c y)
    refine ⟨by simp [encB, h1], fun b r h => ?_⟩
    cases b with
    | zero =>
      simp only [encB, nth, Option.some.injEq] at h; subst h
      exact ⟨c, rfl, encC_len _ _ _⟩
    | succ b => exact h2 b r h
theorem decC_len {m : Mem} {nb ns : Nat} : ∀ {l : List CS} {τ : Type} {row : List A} {tl : τ} {a : CD l τ}, decC m nb ns l row tl = some a → row.length = l.length
  | [], _, [], tl, a, h => rfl
  | [], _, _ :: _, tl, a, h => by simp [decC] at h
  | .code r :: l, _, [], tl, a, h => by simp [decC] at h
  | .tip _ :: l, _, [], tl, a, h => by simp [decC] at h
  | .fix _ :: l, _, [], tl, a, h => by simp [decC] at h
  | .junk :: l, _, [], tl, a, h => by simp [decC] at h
  | .code r :: l, _, a0 :: row, tl, a, h => by
    simp only [decC] at h
    split at h
    · split at h
      · rename_i b hb
        simp [decC_len hb]
      · simp at h
    · simp at h
  | .tip h0 :: l, _, a0 :: row, tl, a, h => by
    simp only [decC] at h
    split at h
    · simp [decC_len (l := l) h]
    · simp at h
  | .fix a1 :: l, _, a0 :: row, tl, a, h => by
    simp only [decC] at h
    split at h
    · simp [decC_len (l := l) h]
    · simp at h
  | .junk :: l, _, a0 :: row, tl, a, h => by
    simp only [decC] at h
    simp [decC_len (l := l) h]
theorem decB_len {m : Mem} {nb ns : Nat} : ∀ {l : List (List CS)} {τ : Type} {bx : List (List A)} {tl : τ} {a : BD l τ}, decBx m nb ns l bx tl = some a → ∀ b c row, nth l b = some c → nth bx b = some row → row.length = c.length
  | [], _, bx, tl, a, h, b, c, row, h1, _ => by simp [nth_nil] at h1
  | c0 :: l, _, row0 :: bx, tl, a, h, b, c, row, h1, h2 => by
    simp only [decBx] at h
    split at h
    · rename_i b0 hb
      cases b with
      | zero =>
        simp only [nth, Option.some.injEq] at h1 h2; subst h1; subst h2
        exact decC_len h
      | succ b => exact decB_len hb b c row h1 h2
    · simp at h
  | c0 :: l, _, [], tl, a, h, _, _, _, _, _ => by simp [decBx] at h
theorem encG_len (vf : Nat → Nat) : ∀ (k : Nat) (l : List GS) (y : GD l), (encG vf k l y).length = l.length ∧ ∀ h g, nth (encG vf k l y) h = some g → g.ver = vf (k + h)
  | _, [], _ => ⟨rfl, fun h g e => by simp [encG, nth_nil] at e⟩
  | k, g :: l, y => by
    obtain ⟨h1, h2⟩ := encG_len vf (k + 1) l y.2
    refine ⟨by simp [encG, h1], fun h g e => ?_⟩
    cases h with
    | zero => simp only [encG, nth, Option.some.injEq] at e; subst e; rfl
    | succ h =>
      have := h2 h g e
      rwa [Nat.add_assoc, Nat.add_comm 1] at this

theorem behind_keep {c : LS} {s : St} {a : c.D} (hb : len s.mem.boxes = len c.boxes) (hs : len s.mem.stgs ≤ len c.stgs) (h : c.dec (openSt c s) = some a) (a' : c.D) : Keep s (behind c s a') := by
  obtain ⟨hn, g, b0, h1, h2, h3⟩ := LS.dec_some h
  have hn' : s.slots.length = c.n := by
    rw [← hn]
    have : ∀ (l : List (Nat × SS)) (sl : List V) lo hi, (openS lo hi l sl).length = sl.length := by
      intro l
      induction l with
      | nil => intro sl lo hi; rfl
      | cons p l ih =>
        intro sl lo hi
        obtain ⟨i, q⟩ := p
        cases q with
        | code _ => exact ih _ _ _
        | fix _ => exact ih _ _ _
        | tip _ =>
          simp only [openS]
          split
          · split
            · rw [ih]; simp [setN_eq]
            · exact ih _ _ _
          · exact ih _ _ _
    exact (this _ _ _ _).symm
  rw [len_eq, len_eq] at hb hs
  have hbl : ∀ (l : List (List CS)) {t : Type} (y : BD l t) vf, (encB vf l y).length = l.length := fun l t y vf => (encB_len vf l y).1
  refine ⟨by simp [behind, LS.st, fillS_len, junks_len, hn'], fun t ht => ?_, ?_, fun b l hl => ?_, ?_, fun i g hg => ?_⟩
  · simp only [behind, tbit_lor, Bool.or_eq_false_iff] at ht
    have hnt : ¬ t < c.n := by rw [← tbit_allB c.n t, ht.2]; simp
    refine ⟨ht.1, ?_⟩
    simp only [behind, LS.st, nth_eq]
    rw [List.getElem?_eq_none (by simp [fillS_len, junks_len]; omega), List.getElem?_eq_none (by omega)]
  · show s.mem.boxes.length ≤ (encB _ _ _).length
    rw [hbl]; omega
  · obtain ⟨s1, s2⟩ := nth_ex (l := (encB (vfB s) c.boxes (tlS c.slots a'))) (n := b) (by rw [hbl]; have := nth_lt hl; omega)
    obtain ⟨cs, r1, r2⟩ := (encB_len (vfB s) c.boxes (tlS c.slots a')).2 b s1 s2
    have hle : s1.length = l.length := by rw [r2, decB_len h2 b cs l r1 hl]
    refine ⟨s1, s2, hle, fun j hj => ?_⟩
    obtain ⟨e1, e2⟩ := memP_allBD _ _ _ _ _ hj
    refine ⟨e1, ?_⟩
    have := e2 l (Nat.zero_le _) (by simpa using hl)
    rw [nth_eq, nth_eq, List.getElem?_eq_none (by omega), List.getElem?_eq_none (by omega)]
  · show s.mem.stgs.length ≤ (encG _ _ _ _).length
    rw [(encG_len _ _ _ _).1]; omega
  · obtain ⟨g', hg'⟩ := nth_ex (l := (encG (vfB s) 0 c.stgs (tlB c.boxes (tlS c.slots a')))) (n := i) (by rw [(encG_len _ _ _ _).1]; have := nth_lt hg; omega)
    refine ⟨g', hg', ?_, fun hj => ?_⟩
    · rw [(encG_len _ _ _ _).2 i g' hg', Nat.zero_add]
      simp only [vfB, hg]; omega
    · simp only [behind, memN_joinN, Bool.or_eq_false_iff] at hj
      have := nth_lt hg
      have h3 := (memN_allN (len s.mem.stgs) i).2 (by rw [len_eq]; exact this)
      rw [h3] at hj
      exact absurd hj.2 (by simp)

theorem loop_ok {E : Env} (hE : EnvOk E) {id : Nat} {b : Code} (hl : LoopsOk E b) {c : LS} {fl : Bool} {chk : c.D → Option Bool} {res : c.D → Bool × c.D} {fuel : c.D → Nat}
    (h : ∀ a, c.ok a → chk a ≠ some false → runL (fun a => (roundOf E b id c a).val) (fuel a) a = some (res a) ∧ (fl = true ∨ (res a).1 = false)) : OraOk E (.block id (.loop b)) (oraOf fl c chk res) := by
  refine ⟨fun s => ?_, fun x0 w0 x s act w Q hr hh => ?_⟩
  · unfold oraOf
    split
    · exact stop_keep s
    · rename_i hbs
      simp only [Bool.and_eq_true, Nat.beq_eq, Nat.ble_eq] at hbs
      split
      · exact stop_keep s
      · rename_i a ha
        refine chkT_keep ?_
        split
        · exact ⟨behind_keep hbs.1 hbs.2 ha _, behind_keep hbs.1 hbs.2 ha _⟩
        · exact behind_keep hbs.1 hbs.2 ha _
  · unfold oraOf at hh
    split at hh
    · exact (Hold.stop hr hh).elim
    rename_i hbs
    simp only [Bool.and_eq_true, Nat.beq_eq, Nat.ble_eq] at hbs
    split at hh
    · exact (Hold.stop hr hh).elim
    rename_i a ha
    obtain ⟨hc, hh⟩ := Hold.chk hr hh
    obtain ⟨x1, hr1, hx1⟩ := openSt_ok c hr
    have hin : c.ok a := LS.dec_in ha hr1.r.m hr1.r.f
    obtain ⟨hrun, hfl⟩ := h a hin hc
    obtain ⟨m1, f1⟩ := LS.dec_ok ha hr1.r.m hr1.r.f (fun _ => 0)
    have hxM : x.M.length ≤ len c.boxes := by rw [hr.r.m.ml, ← len_eq, hbs.1]; exact Nat.le_refl _
    have hxS : x.S.length ≤ len c.stgs := by rw [hr.r.m.sl, ← len_eq]; exact hbs.2
    have hmid := (Mid.refl x).ext hx1
    refine wp_block (wp_loop_rounds (fuel a) (rounds_run (x := x) (w0 := w) hE hl hxM hxS ?_ (fuel a) a _ act w (hmid.retag hxM hxS _) f1 m1 hr.r.d (Step.refl x w) hrun))
    intro y s2 act2 w2 hxy hdec hf2 hm2 hd2 ht2
    obtain ⟨m3, f3⟩ := LS.dec_ok hdec hm2 hf2 (vfB s)
    have hxz := hxy.retag hxM hxS (vfB s)
    have hext : Ext x (y.retag (len c.boxes) (len c.stgs) (vfB s)) := by
      refine ⟨hxz.own, hxz.M, fun i s0 e => ?_, hxz.fz, hxz.new⟩
      obtain ⟨s1, e1⟩ := hxy.S i s0 e
      have hi : i < len c.stgs := by have := nth_lt e; omega
      refine ⟨_, retag_S e1 hi, ?_⟩
      obtain ⟨g, hg⟩ := hr.r.m.stg_of e
      have hv := (hr.r.m.stg i g s0 hg e).ver
      have hvf : vfB s i = g.ver + 1 := by simp only [vfB, hg]
      refine ⟨by simp only [hvf]; omega, fun he => ?_⟩
      simp only [hvf] at he; omega
    have hrz : ∀ s', s'.slots = (c.st (vfB s) (res a).2).slots → s'.mem = c.mem (vfB s) (res a).2 → RelH x0 w0 (y.retag (len c.boxes) (len c.stgs) (vfB s)) s' act2 w2 := by
      intro s' e1 e2
      exact ⟨⟨by rw [e1]; exact f3, by rw [e2]; exact m3, hd2⟩, hr.e.trans hext, hr.t.trans ht2 hr.e.own⟩
    cases fl with
    | true =>
      simp only [RT.val] at hh
      cases hr1 : (res a).1 with
      | true =>
        rw [hr1] at hh
        exact hh _ act2 w2 (hrz _ rfl rfl) hext.extM
      | false =>
        rw [hr1] at hh
        exact hh _ act2 w2 (hrz _ rfl rfl) hext.extM
    | false =>
      rcases hfl with hfl | hfl
      · simp at hfl
      · rw [hfl]
        exact hh _ act2 w2 (hrz _ rfl rfl) hext.extM
end Go.S3
