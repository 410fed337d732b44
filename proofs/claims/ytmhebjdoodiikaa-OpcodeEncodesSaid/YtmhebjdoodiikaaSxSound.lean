/-
  Soundness of the symbolic executor, part 10: code, functions. Conditions: none (lemmas).
-/
import Derived.Test.YtmhebjdoodiikaaSxCtl
import Derived.LoopN
import Derived.Deep.LoopGhost
namespace Go.Sx

theorem RF.retag {x : Ctx} {sl : List V} {t : Array Value} (h : RF x sl t) (d : Nat) {v : V} (hv : RV x v (t.getD d undef)) : RF x (setN sl d v) t := by
  refine ⟨by simp [setN_eq, h.size], fun i v' e => ?_⟩
  by_cases hd : d = i
  · subst hd
    have hlt := nth_lt e
    rw [setN_eq] at hlt e
    rw [nth_eq, List.getElem?_set_self (by simpa using hlt)] at e
    simp only [Option.some.injEq] at e
    subst e; exact hv
  · rw [nth_eq, setN_eq, List.getElem?_set_ne hd, ← nth_eq] at e
    exact h.slot i v' e

theorem RelH.retag {x0 x : Ctx} {w0 w : World} {s : St} {a : Act} (h : RelH x0 w0 x s a w) (d : Nat) {v : V} (hv : RV x v (a.tmps.getD d undef)) : RelH x0 w0 x (Sx.put s (some d) v) a w :=
  ⟨⟨h.r.f.retag d hv, h.r.m, h.r.d⟩, h.e, h.t⟩

theorem yielded_of {ops : List Oper} {a : Act} {j d : Nat} {o : Oper} (h1 : nth ops j = some o) (h2 : o.dst = some d) :
    yielded ops.toArray a.tmps j = match a.tmps.getD d undef with | .bool b => some b | _ => none := by
  rw [nth_eq] at h1
  simp only [yielded, List.getElem?_toArray, h1, Option.bind_some, h2]
  rw [Array.getD_eq_getD_getElem?]
  cases a.tmps[d]? with
  | none => rfl
  | some v => cases v <;> rfl

theorem guardT_ok {x0 x : Ctx} {w0 w : World} {s : St} {a : Act} {ops : List Oper} {o : Oper} {run skip : St → RT Out} {Q : Exit → Act → World → Prop}
    (hr : RelH x0 w0 x s a w) (h : Hold x0 w0 x Q (guardT ops s o.guard run skip).val) :
    (Region.wanted o (yielded ops.toArray a.tmps) = true ∧ ∃ s', RelH x0 w0 x s' a w ∧ Hold x0 w0 x Q (run s').val) ∨
    (Region.wanted o (yielded ops.toArray a.tmps) = false ∧ ∃ s', RelH x0 w0 x s' a w ∧ Hold x0 w0 x Q (skip s').val) := by
  unfold guardT at h
  split at h
  · rename_i hg
    exact .inl ⟨by simp [Region.wanted, hg], s, hr, h⟩
  · rename_i j want hg
    split at h
    · rename_i oj hoj
      split at h
      · rename_i d hd
        have hy := yielded_of (a := a) hoj hd
        have hw : Region.wanted o (yielded ops.toArray a.tmps) = ((match a.tmps.getD d undef with | .bool b => some b | _ => none) == some want) := by
          simp only [Region.wanted, hg, hy]
        split at h
        · rename_i b hs
          have hv := bool_of (hr.r.f.slot d _ hs)
          rw [hv] at hw
          split at h
          · rename_i hb
            exact .inl ⟨by rw [hw]; simpa using hb, s, hr, h⟩
          · rename_i hb
            exact .inr ⟨by rw [hw]; simpa using hb, s, hr, h⟩
        · rename_i b hs
          have hv := bool_of (hr.r.f.slot d _ hs)
          rw [hv] at hw
          cases b with
          | true =>
            have hr' : RelH x0 w0 x (Sx.put s (some d) (.w (.one (.bool true true)))) a w := hr.retag d (by rw [hv]; exact .bool _ _ _)
            cases want with
            | true => exact .inl ⟨by rw [hw]; rfl, _, hr', h⟩
            | false => exact .inr ⟨by rw [hw]; rfl, _, hr', h⟩
          | false =>
            have hr' : RelH x0 w0 x (Sx.put s (some d) (.w (.one (.bool true false)))) a w := hr.retag d (by rw [hv]; exact .bool _ _ _)
            cases want with
            | true => exact .inr ⟨by rw [hw]; rfl, _, hr', h⟩
            | false => exact .inl ⟨by rw [hw]; rfl, _, hr', h⟩
        · rename_i hs
          obtain ⟨C, hv, hC⟩ := hr.r.f.slot d _ hs
          rw [hv] at hw
          exact .inr ⟨by rw [hw]; rfl, s, hr, h⟩
        · exact (Hold.stop hr h).elim
      · exact (Hold.stop hr h).elim
    · exact (Hold.stop hr h).elim

theorem RelH.skip {x0 x : Ctx} {w0 w : World} {s : St} {a : Act} (h : RelH x0 w0 x s a w) (d : Option Nat) : RelH x0 w0 x (Sx.put s d undefV) (a.put d undef) w :=
  ⟨⟨RF.put h.r.f d ⟨[], rfl, trivial⟩, by rw [put_mem]; exact h.r.m, by rw [put_size]; exact h.r.d⟩, h.e, h.t⟩

theorem evOps_ok {E : Env} (hE : EnvOk E) {x0 : Ctx} {w0 : World} {ops : List Oper} {Q : Exit → Act → World → Prop} : ∀ (l : List Oper) (x : Ctx) (w : World) (s : St) (a : Act),
    RelH x0 w0 x s a w → Hold x0 w0 x Q (evOps E false ops l s).val → wpList E.P ops.toArray Q l a w
  | [], x, w, s, a, hr, h => h x a w hr (ExtM.refl x)
  | o :: l, x, w, s, a, hr, h => by
    simp only [evOps] at h
    unfold wpList
    rcases guardT_ok hr h with ⟨hw, s', hr', h'⟩ | ⟨hw, s', hr', h'⟩
    · rw [if_pos hw]
      refine .inl (stepT_ok hE hr' h' fun x' s2 a' w' hr2 hx h2 => evOps_ok hE l x' w' s2 a' hr2 h2)
    · rw [if_neg (by simp [hw])]
      exact evOps_ok hE l x w _ _ (hr'.skip o.dst) h'
theorem evOpsQ_ok {E : Env} (hE : EnvOk E) {x0 : Ctx} {w0 : World} {ops : List Oper} {Q : Exit → Act → World → Prop} {x : Ctx} {w : World} : ∀ (l : List Oper) (s : St) (a : Act),
    RelH x0 w0 x s a w → Hold x0 w0 x Q (evOps E true ops l s).val → wpQuiet E.P ops.toArray (SameC w) (fun a' => ∀ w', SameC w w' → Q .normal a' w') l a
  | [], s, a, hr, h => fun w' hw => h x a w' (hr.same hw) (ExtM.refl x)
  | o :: l, s, a, hr, h => by
    simp only [evOps] at h
    unfold wpQuiet
    rcases guardT_ok hr h with ⟨hw, s', hr', h'⟩ | ⟨hw, s', hr', h'⟩
    · rw [if_pos hw]
      exact stepQ_ok hE hr' h' fun s2 a' hr2 h2 => evOpsQ_ok hE l s2 a' hr2 h2
    · rw [if_neg (by simp [hw])]
      exact evOpsQ_ok hE l _ _ (hr'.skip o.dst) h'

/-! ### forks -/
theorem sameK_eq {a b : K} (h : sameK a b = true) : a = b := by
  cases a <;> cases b <;> simp [sameK] at h <;> first | rfl | (subst h; rfl)
theorem fork_keep {s : St} (hs : s.dirty = [] ∧ s.bd = [] ∧ s.sd = false) {c : Bool} {nm : Nat} {t e : RT Out} (h1 : AllK s t) (h2 : AllK s e) : AllK s (fork c (len s.mem.boxes) nm t e) := by
  unfold fork
  split
  · split
    · split
      · rename_i m hm
        exact mergeS_keep hs h1 hm
      · exact ⟨h1, h2⟩
    · exact ⟨h1, h2⟩
  · exact ⟨h1, h2⟩
theorem fork_ok {x0 x : Ctx} {w0 w : World} {s : St} {a : Act} (hr : RelH x0 w0 x s a w) (hs : s.dirty = [] ∧ s.bd = [] ∧ s.sd = false) {c : Bool} {nm : Nat} {t e : RT Out} (h1 : AllK s t) (h2 : AllK s e)
    {Q : Exit → Act → World → Prop} (h : Hold x0 w0 x Q (fork c (len s.mem.boxes) nm t e).val) : Hold x0 w0 x Q (RT.br c t e).val := by
  unfold fork at h
  split at h
  · rename_i y1 y2
    split at h
    · rename_i hk
      split at h
      · rename_i m hm
        intro x' a' w' hr' hx'
        obtain ⟨_, hmm⟩ := mergeS_ok hr hs h1 h2 hm
        have hk' := sameK_eq hk
        have hs' : (RT.br c (RT.leaf y1) (RT.leaf y2)).val.s = cond c y1.s y2.s := by cases c <;> rfl
        have hkk : (RT.br c (RT.leaf y1) (RT.leaf y2)).val.k = y1.k := by cases c; exact hk'.symm; rfl
        rw [hs'] at hr'
        obtain ⟨x'', hr'', hx''⟩ := hmm x' a' w' hr' hx'
        rw [hkk]
        exact h x'' a' w' hr'' hx''
      · exact h
    · exact h
  · exact h
theorem squash_keep {s : St} (hs : s.dirty = [] ∧ s.bd = [] ∧ s.sd = false) {nm : Nat} : ∀ {t : RT Out}, AllK s t → AllK s (squash (len s.mem.boxes) nm t)
  | .leaf _, h => h
  | .br _ _ _, h => fork_keep hs (squash_keep hs (And.left h)) (squash_keep hs (And.right h))
theorem squash_ok {x0 x : Ctx} {w0 w : World} {s : St} {a : Act} (hr : RelH x0 w0 x s a w) (hs : s.dirty = [] ∧ s.bd = [] ∧ s.sd = false) {nm : Nat} {Q : Exit → Act → World → Prop} :
    ∀ {t : RT Out}, AllK s t → Hold x0 w0 x Q (squash (len s.mem.boxes) nm t).val → Hold x0 w0 x Q t.val
  | .leaf _, _, h => h
  | .br c t e, hk, h => by
    have hk1 : AllK s t := And.left hk
    have hk2 : AllK s e := And.right hk
    have h' := fork_ok hr hs (squash_keep hs hk1) (squash_keep hs hk2) h
    cases c with
    | true =>
      have r : Hold x0 w0 x Q t.val := squash_ok hr hs hk1 h'
      exact r
    | false =>
      have r : Hold x0 w0 x Q e.val := squash_ok hr hs hk2 h'
      exact r

/-! ### the lists of what was written -/
theorem RelH.ofMem {x0 x : Ctx} {w0 w : World} {s s' : St} {a : Act} (h : RelH x0 w0 x s a w) (h1 : s'.slots = s.slots) (h2 : s'.mem = s.mem) : RelH x0 w0 x s' a w :=
  ⟨⟨by rw [h1]; exact h.r.f, by rw [h2]; exact h.r.m, h.r.d⟩, h.e, h.t⟩
theorem Hold.backD {x0 x : Ctx} {w0 : World} {s : St} {Q : Exit → Act → World → Prop} {o : Out} (h : Hold x0 w0 x Q (Sx.backD s o)) : Hold x0 w0 x Q o :=
  fun x' a' w' hr hx => h x' a' w' (hr.ofMem rfl rfl) hx
theorem backD_keep {s : St} {o : Out} (h : Keep (resetD s) o.s) : Keep s (Sx.backD s o).s where
  sl := h.sl
  slot := fun t ht => by
    simp only [Sx.backD, memN_joinN, Bool.or_eq_false_iff] at ht
    exact ⟨ht.1, (h.slot t ht.2).2⟩
  bl := h.bl
  box := fun b l hl => by
    obtain ⟨l', h1, h2, h3⟩ := h.box b l hl
    refine ⟨l', h1, h2, fun j hj => ?_⟩
    simp only [Sx.backD, memP_joinP, Bool.or_eq_false_iff] at hj
    exact ⟨hj.1, (h3 j hj.2).2⟩
  sd := fun hs => by
    simp only [Sx.backD, Bool.or_eq_false_iff] at hs
    exact ⟨hs.1, (h.sd hs.2).2⟩
theorem unexit_s (id : Nat) (o : Out) : (unexit id o).s = o.s := by
  unfold unexit
  split
  · split <;> rfl
  · rfl
theorem Hold.unexit {x0 x : Ctx} {w0 : World} {id : Nat} {Q : Exit → Act → World → Prop} {o : Out} (h : Hold x0 w0 x Q (Sx.unexit id o)) : Hold x0 w0 x (Exit.inBlock id Q) o := by
  intro x' a' w' hr hx
  have h' := h x' a' w' (by rw [unexit_s]; exact hr) hx
  unfold Sx.unexit at h'
  split at h'
  · rename_i i hk
    rw [hk]
    split at h'
    · rename_i hi
      simp only [Nat.beq_eq] at hi
      simp only [QK, Exit.inBlock, hi, if_true]; exact h'
    · rename_i hi
      have hne : i ≠ id := by intro e; subst e; simp at hi
      rw [hk] at h'
      simp only [QK, Exit.inBlock, hne, if_false]; exact h'
  · rename_i hk
    cases hko : o.k with
    | normal => rw [hko] at h'; exact h'
    | exit i => exact absurd hko (hk i)
    | ret => rw [hko] at h'; exact h'
    | stop => rw [hko] at h'; exact h'

/-! ### code -/
/-- What is to be shown of a loop's oracle. -/
def OraOk (E : Env) (c : Code) (f : Ora) : Prop :=
  (∀ s, AllK s (f s)) ∧ ∀ x0 w0 x s a w Q, RelH x0 w0 x s a w → Hold x0 w0 x Q (f s).val → c.wp E.P Q a w
def LoopsOk (E : Env) : Code → Prop
  | .seq a b => LoopsOk E a ∧ LoopsOk E b
  | .cond _ a b => LoopsOk E a ∧ LoopsOk E b
  | .block id c => match c with
    | .loop b => match E.loops id with
      | some f => OraOk E (.block id (.loop b)) f
      | none => LoopsOk E b
    | c => LoopsOk E c
  | _ => True

theorem evCode_block (E : Env) (id : Nat) (c : Code) (s : St) (hc : ∀ b, c ≠ .loop b) : evCode E (.block id c) s = (squash (len s.mem.boxes) E.named ((evCode E c (resetD s)).map (unexit id))).map (backD s) := by
  cases c <;> first | rfl | exact absurd rfl (hc _)
theorem LoopsOk_block {E : Env} {id : Nat} {c : Code} (hc : ∀ b, c ≠ .loop b) (h : LoopsOk E (.block id c)) : LoopsOk E c := by
  cases c <;> first | exact h | exact absurd rfl (hc _)

theorem backD_all {s : St} {t : RT Out} (h : AllK (resetD s) t) : AllK s (t.map (backD s)) := RT.All.map (h.mono fun _ k => backD_keep k)
theorem resetD_empty (s : St) : (resetD s).dirty = [] ∧ (resetD s).bd = [] ∧ (resetD s).sd = false := ⟨rfl, rfl, rfl⟩
theorem unexit_all {s : St} {id : Nat} {t : RT Out} (h : AllK s t) : AllK s (t.map (unexit id)) := RT.All.map (h.mono fun o k => by rw [unexit_s]; exact k)

theorem unroll_keep {round : St → RT Out} (h : ∀ s, AllK s (round s)) : ∀ (n : Nat) (s : St), AllK s (unrollT round n s)
  | 0, s => stop_keep s
  | n + 1, s => by
    unfold unrollT seqT
    refine RT.All.bind ((h s).mono fun o k => ?_)
    split
    · exact (unroll_keep h n o.s).trans k
    · exact k

theorem evCode_keep {E : Env} : ∀ (c : Code) (s : St), LoopsOk E c → AllK s (evCode E c s)
  | .skip, s, _ => Keep.refl s
  | .region _ ops draw, s, _ => by
    unfold evCode
    split
    · exact stop_keep s
    · exact backD_all (squash_keep (s := resetD s) (resetD_empty s) (evOps_keep _ _))
  | .seq c d, s, h => by
    unfold evCode seqT
    refine RT.All.bind ((evCode_keep c s h.1).mono fun o k => ?_)
    split
    · exact (evCode_keep d o.s h.2).trans k
    · exact k
  | .cond x c d, s, h => by
    unfold evCode
    split
    · split
      · exact evCode_keep c s h.1
      · exact evCode_keep d s h.2
    · exact backD_all (fork_keep (s := resetD s) (resetD_empty s) (evCode_keep c _ h.1) (evCode_keep d _ h.2))
    · exact stop_keep s
  | .block id c, s, h => by
    by_cases hc : ∀ b, c ≠ .loop b
    · rw [evCode_block E id c s hc]
      exact backD_all (squash_keep (s := resetD s) (resetD_empty s) (unexit_all (evCode_keep c _ (LoopsOk_block hc h))))
    · have : ∃ b, c = .loop b := by
        cases c <;> first | exact ⟨_, rfl⟩ | exact absurd (fun b e => by cases e) hc
      obtain ⟨b, rfl⟩ := this
      unfold evCode
      unfold LoopsOk at h
      split
      · rename_i f hf
        simp only [hf] at h
        exact h.1 s
      · rename_i hf
        simp only [hf] at h
        exact backD_all (squash_keep (s := resetD s) (resetD_empty s) (unexit_all (unroll_keep (fun s' => evCode_keep b s' h) _ _)))
  | .exit _, s, _ => Keep.refl s
  | .ret, s, _ => Keep.refl s
  | .loop _, s, _ => stop_keep s
  | .rangeFunc .., s, _ => stop_keep s
  | .scope _, s, _ => stop_keep s
  | .label _, s, _ => stop_keep s
  | .goto _, s, _ => stop_keep s
  | .refuse _, s, _ => stop_keep s

theorem unroll_ok {P : Program} {x0 : Ctx} {w0 : World} {b : Code} {round : St → RT Out} {Q : Exit → Act → World → Prop}
    (hb : ∀ (x : Ctx) (s : St) (a : Act) (w : World) (Q : Exit → Act → World → Prop), RelH x0 w0 x s a w → Hold x0 w0 x Q (round s).val → b.wp P Q a w) :
    ∀ (n : Nat) (x : Ctx) (s : St) (a : Act) (w : World), RelH x0 w0 x s a w → Hold x0 w0 x Q (unrollT round n s).val → Code.rounds P b Q n a w
  | 0, x, s, a, w, hr, h => (Hold.stop hr h).elim
  | n + 1, x, s, a, w, hr, h => by
    rw [rounds_succ]
    unfold unrollT seqT at h
    rw [RT.val_bind] at h
    refine hb x s a w _ hr fun x' a' w' hr' hx' => ?_
    generalize hv : (round s).val = o at *
    obtain ⟨k, s'⟩ := o
    cases k with
    | normal => exact unroll_ok hb n x' s' a' w' hr' (h.ext hx')
    | exit i => exact h x' a' w' hr' hx'
    | ret => exact h x' a' w' hr' hx'
    | stop => exact h x' a' w' hr' hx'

/-- The symbolic executor is sound. -/
theorem evCode_ok {E : Env} (hE : EnvOk E) {x0 : Ctx} {w0 : World} : ∀ (c : Code), LoopsOk E c → ∀ (x : Ctx) (s : St) (a : Act) (w : World) (Q : Exit → Act → World → Prop),
    RelH x0 w0 x s a w → Hold x0 w0 x Q (evCode E c s).val → c.wp E.P Q a w
  | .skip, _, x, s, a, w, Q, hr, h => wp_skip (h x a w hr (ExtM.refl x))
  | .region id ops draw, _, x, s, a, w, Q, hr, h => by
    unfold evCode at h
    split at h
    · exact (Hold.stop hr h).elim
    · rename_i hd
      rw [RT.val_map] at h
      have hr' : RelH x0 w0 x (resetD s) a w := hr.ofMem rfl rfl
      have h' := squash_ok hr' (resetD_empty s) (evOps_keep _ _) h.backD
      cases draw with
      | false => exact wp_region_list (by have := evOps_ok hE ops.toList x w _ a hr' h'; simpa using this)
      | true =>
        simp only [Bool.true_and, Bool.not_eq_false', Bool.and_eq_true] at hd
        refine wp_region_quiet (C := SameC w) hd.2 hd.1 (SameC.drew w) ?_
        have := evOpsQ_ok hE ops.toList _ a hr' h'
        simpa using this
  | .seq c d, hl, x, s, a, w, Q, hr, h => by
    unfold evCode seqT at h
    rw [RT.val_bind] at h
    refine wp_seq (evCode_ok hE c hl.1 x s a w _ hr fun x' a' w' hr' hx' => ?_)
    generalize hv : (evCode E c s).val = o at *
    obtain ⟨k, s'⟩ := o
    cases k with
    | normal => exact evCode_ok hE d hl.2 x' s' a' w' Q hr' (h.ext hx')
    | exit i => exact h x' a' w' hr' hx'
    | ret => exact h x' a' w' hr' hx'
    | stop => exact h x' a' w' hr' hx'
  | .cond y c d, hl, x, s, a, w, Q, hr, h => by
    unfold evCode at h
    split at h
    · rename_i b hb
      have hv := bool_of (opd1_ok hr.r.f hb)
      cases b with
      | true => exact wp_cond_true hv (evCode_ok hE c hl.1 x s a w Q hr h)
      | false => exact wp_cond_false hv (evCode_ok hE d hl.2 x s a w Q hr h)
    · rename_i b hb
      have hv := bool_of (opd1_ok hr.r.f hb)
      rw [RT.val_map] at h
      have hr' : RelH x0 w0 x (resetD s) a w := hr.ofMem rfl rfl
      have h' := fork_ok hr' (resetD_empty s) (evCode_keep c _ hl.1) (evCode_keep d _ hl.2) h.backD
      cases b with
      | true => exact wp_cond_true hv (evCode_ok hE c hl.1 x _ a w Q hr' h')
      | false => exact wp_cond_false hv (evCode_ok hE d hl.2 x _ a w Q hr' h')
    · exact (Hold.stop hr h).elim
  | .block id c, hl, x, s, a, w, Q, hr, h => by
    by_cases hc : ∀ b, c ≠ .loop b
    · rw [evCode_block E id c s hc, RT.val_map] at h
      have hr' : RelH x0 w0 x (resetD s) a w := hr.ofMem rfl rfl
      have h' := squash_ok hr' (resetD_empty s) (unexit_all (evCode_keep c _ (LoopsOk_block hc hl))) h.backD
      rw [RT.val_map] at h'
      exact wp_block (evCode_ok hE c (LoopsOk_block hc hl) x _ a w _ hr' h'.unexit)
    · have : ∃ b, c = .loop b := by
        cases c <;> first | exact ⟨_, rfl⟩ | exact absurd (fun b e => by cases e) hc
      obtain ⟨b, rfl⟩ := this
      unfold evCode at h
      unfold LoopsOk at hl
      split at h
      · rename_i f hf
        simp only [hf] at hl
        exact hl.2 x0 w0 x s a w Q hr h
      · rename_i hf
        simp only [hf] at hl
        rw [RT.val_map] at h
        have hr' : RelH x0 w0 x (resetD s) a w := hr.ofMem rfl rfl
        have h' := squash_ok hr' (resetD_empty s) (unexit_all (unroll_keep (fun s' => evCode_keep b s' hl) _ _)) h.backD
        rw [RT.val_map] at h'
        exact wp_block (wp_loop_rounds E.fuel (unroll_ok (fun x s a w Q hr h => evCode_ok hE b hl x s a w Q hr h) E.fuel x _ a w hr' h'.unexit))
  | .exit i, _, x, s, a, w, Q, hr, h => wp_exit (h x a w hr (ExtM.refl x))
  | .ret, _, x, s, a, w, Q, hr, h => wp_ret (h x a w hr (ExtM.refl x))
  | .loop _, _, x, s, a, w, Q, hr, h => (Hold.stop hr h).elim
  | .rangeFunc .., _, x, s, a, w, Q, hr, h => (Hold.stop hr h).elim
  | .scope _, _, x, s, a, w, Q, hr, h => (Hold.stop hr h).elim
  | .label _, _, x, s, a, w, Q, hr, h => (Hold.stop hr h).elim
  | .goto _, _, x, s, a, w, Q, hr, h => (Hold.stop hr h).elim
  | .refuse _, _, x, s, a, w, Q, hr, h => (Hold.stop hr h).elim
end Go.Sx
