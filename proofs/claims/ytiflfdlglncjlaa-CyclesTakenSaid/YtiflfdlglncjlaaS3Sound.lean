/-
  Soundness of the symbolic executor, part 10: code, functions. Conditions: none (lemmas).
-/
import Derived.Test.YtiflfdlglncjlaaS3Draw2
import Derived.LoopN
import Derived.Deep.LoopGhost
set_option linter.unusedSimpArgs false
set_option linter.unusedVariables false
namespace Go.S3

theorem RF.retag {x : Ctx} {sl : List V} {t : Array Value} (h : RF x sl t) (d : Nat) {v : V} (hv : RV x v (t.getD d undef)) : RF x (setN sl d v) t := by
  refine ⟨by simp [setN_eq, h.size], fun i v' e => ?_⟩
  by_cases hd : d = i
  · subst hd
    have hlt := nth_lt e
    rw [setN_eq] at hlt e
    rw [nth_eq, List.getElem?_set_self (by simpa using hlt)] at e
    simp only [Option.some.injEq] at e
    subst e; exact hv
  · rw [nth_eq, setN_eq, List.getElem?_set_ne hd, ← nth_eq] at e
    exact h.slot i v' e

theorem RelH.retag {x0 x : Ctx} {w0 w : World} {s : St} {a : Act} (h : RelH x0 w0 x s a w) (d : Nat) {v : V} (hv : RV x v (a.tmps.getD d undef)) : RelH x0 w0 x (S3.put s (some d) v) a w :=
  ⟨⟨h.r.f.retag d hv, h.r.m, h.r.d⟩, h.e, h.t⟩

/-! ### the lists of what was written -/
theorem RelH.ofMem {x0 x : Ctx} {w0 w : World} {s s' : St} {a : Act} (h : RelH x0 w0 x s a w) (h1 : s'.slots = s.slots) (h2 : s'.mem = s.mem) : RelH x0 w0 x s' a w :=
  ⟨⟨by rw [h1]; exact h.r.f, by rw [h2]; exact h.r.m, h.r.d⟩, h.e, h.t⟩
theorem Hold.backD {x0 x : Ctx} {w0 : World} {s : St} {Q : Exit → Act → World → Prop} {o : Out} (h : Hold x0 w0 x Q (S3.backD s o)) : Hold x0 w0 x Q o :=
  fun x' a' w' hr hx => h x' a' w' (hr.ofMem rfl rfl) hx
theorem backD_keep {s : St} {o : Out} (h : Keep (resetD s) o.s) : Keep s (S3.backD s o).s where
  sl := h.sl
  slot := fun t ht => by
    simp only [S3.backD, tbit_lor, Bool.or_eq_false_iff] at ht
    exact ⟨ht.1, (h.slot t ht.2).2⟩
  bl := h.bl
  box := fun b l hl => by
    obtain ⟨l', h1, h2, h3⟩ := h.box b l hl
    refine ⟨l', h1, h2, fun j hj => ?_⟩
    simp only [S3.backD, memP_joinP, Bool.or_eq_false_iff] at hj
    exact ⟨hj.1, (h3 j hj.2).2⟩
  gl := h.gl
  stg := fun i g hg => by
    obtain ⟨g', h1, h2, h3⟩ := h.stg i g hg
    refine ⟨g', h1, h2, fun hj => ?_⟩
    simp only [S3.backD, memN_joinN, Bool.or_eq_false_iff] at hj
    exact ⟨hj.1, (h3 hj.2).2⟩
theorem backD_all {s : St} {t : RT Out} (h : AllK (resetD s) t) : AllK s (t.map (backD s)) := RT.All.map (h.mono fun _ k => backD_keep k)
theorem resetD_empty (s : St) : (resetD s).dirty = 0 ∧ (resetD s).bd = [] ∧ (resetD s).sd = [] := ⟨rfl, rfl, rfl⟩
theorem RelH.reset {x0 x : Ctx} {w0 w : World} {s : St} {a : Act} (h : RelH x0 w0 x s a w) : RelH x0 w0 x (resetD s) a w := h.ofMem rfl rfl
theorem unexit_s (id : Nat) (o : Out) : (unexit id o).s = o.s := by
  unfold unexit
  split
  · split <;> rfl
  · rfl
theorem Hold.unexit {x0 x : Ctx} {w0 : World} {id : Nat} {Q : Exit → Act → World → Prop} {o : Out} (h : Hold x0 w0 x Q (S3.unexit id o)) : Hold x0 w0 x (Exit.inBlock id Q) o := by
  intro x' a' w' hr hx
  have h' := h x' a' w' (by rw [unexit_s]; exact hr) hx
  unfold S3.unexit at h'
  split at h'
  · rename_i i hk
    rw [hk]
    split at h'
    · rename_i hi
      simp only [Nat.beq_eq] at hi
      simp only [QK, Exit.inBlock, hi, if_true]; exact h'
    · rename_i hi
      have hne : i ≠ id := by intro e; subst e; simp at hi
      rw [hk] at h'
      simp only [QK, Exit.inBlock, hne, if_false]; exact h'
  · rename_i hk
    cases hko : o.k with
    | normal => rw [hko] at h'; exact h'
    | exit i => exact absurd hko (hk i)
    | ret => rw [hko] at h'; exact h'
    | stop => rw [hko] at h'; exact h'

/-! ### forks -/
theorem sameKd_eq {a b : K} (h : sameKd a b = true) : a = b := by
  cases a <;> cases b <;> simp [sameKd] at h <;> first | rfl | (subst h; rfl)
theorem isStop_eq {t : RT Out} (h : isStop t = true) : ∃ s, t = .leaf ⟨.stop, s⟩ := by
  unfold isStop at h
  split at h
  · exact ⟨_, rfl⟩
  · simp at h
section
variable {s : St} (hs : s.dirty = 0 ∧ s.bd = [] ∧ s.sd = [])
include hs
theorem fork1_keep {c : Bool} {nm : Nm} {x y : Out} (h1 : Keep s x.s) (h2 : Keep s y.s) : AllK s (fork1 c (len s.mem.boxes) (len s.mem.stgs) nm x y) := by
  unfold fork1
  split
  · split
    · rename_i m hm
      exact mergeS_keep hs h1 h2 hm
    · exact ⟨h1, h2⟩
  · exact ⟨h1, h2⟩
theorem forkR_keep {c : Bool} {nm : Nm} {x : Out} (h1 : Keep s x.s) : ∀ {e : RT Out}, AllK s e → AllK s (forkR c (len s.mem.boxes) (len s.mem.stgs) nm x e)
  | .leaf y, h => fork1_keep hs h1 h
  | .br b t f, h => by
    unfold forkR
    split
    · exact ⟨forkR_keep h1 h.1, h.2⟩
    · exact ⟨h1, h⟩
theorem fork_keep {c : Bool} {nm : Nm} {e : RT Out} (h2 : AllK s e) : ∀ {t : RT Out}, AllK s t → AllK s (fork c (len s.mem.boxes) (len s.mem.stgs) nm t e)
  | .leaf x, h1 => by
    unfold fork
    split
    · exact ⟨h2, h1⟩
    · split
      · exact ⟨h1, h2⟩
      · exact forkR_keep hs h1 h2
  | .br b t f, h1 => by
    unfold fork
    split
    · exact ⟨fork_keep h2 h1.1, h1.2⟩
    · exact ⟨h1, h2⟩
theorem squash_keep {nm : Nm} : ∀ {t : RT Out}, AllK s t → AllK s (squash (len s.mem.boxes) (len s.mem.stgs) nm t)
  | .leaf _, h => h
  | .br _ _ _, h => fork_keep hs (squash_keep (And.right h)) (squash_keep (And.left h))
end
section
variable {x0 x : Ctx} {w0 w : World} {s : St} {a : Act} (hr : RelH x0 w0 x s a w) {nm : Nm} {Q : Exit → Act → World → Prop}
include hr
theorem fork1_ok {c : Bool} {y1 y2 : Out} (h1 : Keep s y1.s) (h2 : Keep s y2.s) (h : Hold x0 w0 x Q (fork1 c (len s.mem.boxes) (len s.mem.stgs) nm y1 y2).val) : Hold x0 w0 x Q (cond c y1 y2) := by
  unfold fork1 at h
  split at h
  · rename_i hk
    split at h
    · rename_i m hm
      intro x' a' w' hr' hx'
      have hmm := mergeS_ok hr h1 h2 hm
      have hk' := sameKd_eq hk
      have hs' : (cond c y1 y2).s = cond c y1.s y2.s := by cases c <;> rfl
      have hkk : (cond c y1 y2).k = y1.k := by cases c; exact hk'.symm; rfl
      rw [hs'] at hr'
      obtain ⟨x'', hr'', hx''⟩ := hmm x' a' w' hr' hx'
      rw [hkk]
      exact h x'' a' w' hr'' hx''
    · exact h
  · exact h
theorem forkR_ok {c : Bool} {y : Out} (h1 : Keep s y.s) : ∀ {e : RT Out}, AllK s e → Hold x0 w0 x Q (forkR c (len s.mem.boxes) (len s.mem.stgs) nm y e).val → Hold x0 w0 x Q (cond c y e.val)
  | .leaf z, h2, h => fork1_ok hr h1 h2 h
  | .br b t f, h2, h => by
    unfold forkR at h
    split at h
    · cases c with
      | true => exact forkR_ok (c := true) (e := t) h1 h2.1 h
      | false =>
        cases b with
        | true => exact forkR_ok (c := false) (e := t) h1 h2.1 h
        | false => exact h
    · cases c <;> exact h
theorem fork_ok {c : Bool} {e : RT Out} (h2 : AllK s e) : ∀ {t : RT Out}, AllK s t → Hold x0 w0 x Q (fork c (len s.mem.boxes) (len s.mem.stgs) nm t e).val → Hold x0 w0 x Q (cond c t.val e.val)
  | .leaf y, h1, h => by
    unfold fork at h
    split at h
    · cases c <;> exact h
    · split at h
      · cases c <;> exact h
      · exact forkR_ok hr h1 h2 h
  | .br b t f, h1, h => by
    unfold fork at h
    split at h
    · cases c with
      | true =>
        cases b with
        | true => exact fork_ok (c := true) (t := t) h2 h1.1 h
        | false => exact h
      | false => exact fork_ok (c := false) (t := t) h2 h1.1 h
    · cases c <;> exact h
theorem squash_ok (hs : s.dirty = 0 ∧ s.bd = [] ∧ s.sd = []) : ∀ {t : RT Out}, AllK s t → Hold x0 w0 x Q (squash (len s.mem.boxes) (len s.mem.stgs) nm t).val → Hold x0 w0 x Q t.val
  | .leaf _, _, h => h
  | .br c t e, hk, h => by
    have hk1 : AllK s t := And.left hk
    have hk2 : AllK s e := And.right hk
    have h' := fork_ok hr (squash_keep hs hk2) (squash_keep hs hk1) h
    cases c with
    | true =>
      have r : Hold x0 w0 x Q t.val := squash_ok hs hk1 h'
      exact r
    | false =>
      have r : Hold x0 w0 x Q e.val := squash_ok hs hk2 h'
      exact r
end

/-! ### regions in their text's order -/
theorem stepRes_keep {E : Env} (hE : EnvOk E) {s : St} {o : Oper} : (stepRes E s o).All (fun r => ∀ q, r = some q → KeepR s q) := by
  unfold stepRes
  split
  · split
    · split
      · intro q hq; exact builtinA_keep hq
      · intro q hq; simp at hq
    · split
      · split
        · rename_i hfz
          split
          · intro q hq
            simp only [Option.some.injEq] at hq; subst hq
            exact KeepR.of (freezeVs_keep hfz) _ _
          · intro q hq; simp at hq
        · intro q hq; simp at hq
      · split
        · intro q hq
          simp only [Option.some.injEq] at hq; subst hq
          exact .still rfl rfl rfl
        · intro q hq; simp at hq
      · rename_i g caps vs hcal hvs
        have : ∃ f, E.calls f = some (.tree g) := by
          unfold calleeOf at hcal
          split at hcal
          · split at hcal
            · split at hcal
              · rename_i e he
                simp only [Option.some.injEq, Prod.mk.injEq] at hcal
                exact ⟨_, by rw [he, hcal.1]⟩
              · simp at hcal
            · simp at hcal
          · simp at hcal
        obtain ⟨f, hf⟩ := this
        have h := (hE f _ hf).2.1 (vs ++ caps) s.mem
        refine RT.All.map (h.mono fun r hr q hq => ?_)
        split at hq
        · rename_i r0
          simp only [Option.some.injEq] at hq; subst hq
          exact (hr r0 rfl).keepR
        · simp at hq
      · intro q hq; simp at hq
  · split
    · unfold idxT
      split
      · rename_i k n _ _
        have : ∀ t x m j, (armsIdx E.P s t x k n m j).All fun r => ∀ q, r = some q → KeepR s q := by
          intro t x m
          induction m with
          | zero => intro j q hq; simp at hq
          | succ m ih => intro j; exact ⟨fun q hq => indexAddrA_keep hq, ih _⟩
        exact this _ _ _ _
      · intro q hq; exact indexAddrA_keep hq
    · intro q hq; simp at hq
  · intro q hq; exact evOp_keep hq
theorem stepT_keep {E : Env} (hE : EnvOk E) {s : St} {o : Oper} {k : St → RT Out} (hk : ∀ s', Keep s s' → AllK s' (k s')) : AllK s (stepT E s o k) := by
  unfold stepT
  refine RT.All.bind ((stepRes_keep hE).mono fun r hr => ?_)
  cases r with
  | none => exact stop_keep s
  | some r => exact chkT_keep ((hk _ ((hr r rfl).keep _)).trans ((hr r rfl).keep _))
theorem guardT_keep {nm : Nm} {ops : List Oper} {s : St} {g : Option (Nat × Bool)} {run skip : St → RT Out} (h1 : ∀ s', AllK s' (run s')) (h2 : ∀ s', AllK s' (skip s')) : AllK s (guardT nm ops s g run skip) := by
  have hb : ∀ (t e : RT Out) (b : Bool), AllK (resetD s) t → AllK (resetD s) e → AllK s ((fork b (len s.mem.boxes) (len s.mem.stgs) nm t e).map (backD s)) := fun t e b ht he =>
    backD_all (fork_keep (s := resetD s) (resetD_empty s) he ht)
  unfold guardT
  repeat' split
  all_goals first
    | exact stop_keep s
    | exact h1 s
    | exact h2 s
    | exact hb _ _ _ ((h1 _).trans (Keep.put _ _ _)) ((h2 _).trans (Keep.put _ _ _))
    | exact hb _ _ _ ((h2 _).trans (Keep.put _ _ _)) ((h1 _).trans (Keep.put _ _ _))
theorem evOps_keep {E : Env} (hE : EnvOk E) {ops : List Oper} : ∀ (l : List Oper) (s : St), AllK s (evOps E ops l s)
  | [], s => Keep.refl s
  | _ :: l, _ => guardT_keep (fun _ => stepT_keep hE fun s'' _ => evOps_keep hE l s'') (fun _ => (evOps_keep hE l _).trans (Keep.put _ _ _))

/-- One operation, in the order of the text. -/
theorem stepT_ok {E : Env} (hE : EnvOk E) {x0 x : Ctx} {w0 w : World} {s : St} {a : Act} {o : Oper} {k : St → RT Out} {Q : Exit → Act → World → Prop} {next : Act → World → Prop}
    (hr : RelH x0 w0 x s a w) (h : Hold x0 w0 x Q (stepT E s o k).val)
    (hn : ∀ x' s' a' w', RelH x0 w0 x' s' a' w' → ExtM x x' → Hold x0 w0 x' Q (k s').val → next a' w') : o.wp E.P a w next Q := by
  unfold stepT at h
  rw [RT.val_bind] at h
  cases hres : (stepRes E s o).val with
  | none => rw [hres] at h; exact (Hold.stop hr h).elim
  | some r =>
    rw [hres] at h
    obtain ⟨hc, h⟩ := Hold.chk hr (show Hold x0 w0 x Q (chkT r.chk s (k (putRes s o.dst r))).val from h)
    exact stepRes_ok hE hr.r.f hr.r.d hr.r.m hres hc fun v w' x' hv hm he ht => hn x' _ _ _ (hr.putRes o.dst hv hm he ht) he.extM (h.ext he.extM)

theorem guardT_ok {x0 x : Ctx} {w0 w : World} {s : St} {a : Act} {nm : Nm} {ops : List Oper} {o : Oper} {run skip : St → RT Out} {Q : Exit → Act → World → Prop} (k1 : ∀ s', AllK s' (run s')) (k2 : ∀ s', AllK s' (skip s'))
    (hr : RelH x0 w0 x s a w) (h : Hold x0 w0 x Q (guardT nm ops s o.guard run skip).val) :
    (Region.wanted o (yielded ops.toArray a.tmps) = true ∧ ∃ s', RelH x0 w0 x s' a w ∧ Hold x0 w0 x Q (run s').val) ∨
    (Region.wanted o (yielded ops.toArray a.tmps) = false ∧ ∃ s', RelH x0 w0 x s' a w ∧ Hold x0 w0 x Q (skip s').val) := by
  unfold guardT at h
  split at h
  · rename_i hg
    exact .inl ⟨by simp [Region.wanted, hg], s, hr, h⟩
  · rename_i j want hg
    split at h
    · rename_i oj hoj
      split at h
      · rename_i d hd
        have hy := yielded_of (a := a) hoj hd
        have hw : Region.wanted o (yielded ops.toArray a.tmps) = ((match a.tmps.getD d undef with | .bool b => some b | _ => none) == some want) := by
          simp only [Region.wanted, hg, hy]; try rfl
        split at h
        · rename_i b hs
          have hv := bool_of (hr.r.f.slot d _ hs)
          rw [hv] at hw
          split at h
          · rename_i hb
            exact .inl ⟨by rw [hw]; simpa using hb, s, hr, h⟩
          · rename_i hb
            exact .inr ⟨by rw [hw]; simpa using hb, s, hr, h⟩
        · rename_i b hs
          have hv := bool_of (hr.r.f.slot d _ hs)
          rw [hv] at hw
          have hr0 : RelH x0 w0 x (resetD s) a w := hr.reset
          have hrt : ∀ c, c = b → RelH x0 w0 x (S3.put (resetD s) (some d) (.w (.one (.bool true c)))) a w := fun c e => hr0.retag d (by rw [hv, e]; exact .bool _ _ _)
          have kr : ∀ v, AllK (resetD s) (run (S3.put (resetD s) (some d) v)) := fun v => (k1 _).trans (Keep.put _ _ _)
          have ks : ∀ v, AllK (resetD s) (skip (S3.put (resetD s) (some d) v)) := fun v => (k2 _).trans (Keep.put _ _ _)
          cases want with
          | true =>
            simp only at h
            rw [RT.val_map] at h
            have h' := fork_ok hr0 (ks _) (kr _) h.backD
            cases b with
            | true => exact .inl ⟨by rw [hw]; rfl, _, hrt true rfl, h'⟩
            | false => exact .inr ⟨by rw [hw]; rfl, _, hrt false rfl, h'⟩
          | false =>
            simp only at h
            rw [RT.val_map] at h
            have h' := fork_ok hr0 (kr _) (ks _) h.backD
            cases b with
            | true => exact .inr ⟨by rw [hw]; rfl, _, hrt true rfl, h'⟩
            | false => exact .inl ⟨by rw [hw]; rfl, _, hrt false rfl, h'⟩
        · rename_i hs
          obtain ⟨C, hv, hC⟩ := hr.r.f.slot d _ hs
          rw [hv] at hw
          exact .inr ⟨by rw [hw]; rfl, s, hr, h⟩
        · exact (Hold.stop hr h).elim
      · exact (Hold.stop hr h).elim
    · exact (Hold.stop hr h).elim

theorem RelH.skip {x0 x : Ctx} {w0 w : World} {s : St} {a : Act} (h : RelH x0 w0 x s a w) (d : Option Nat) : RelH x0 w0 x (S3.put s d undefV) (a.put d undef) w :=
  ⟨⟨RF.put h.r.f d ⟨[], rfl, trivial⟩, by rw [put_mem]; exact h.r.m, by rw [put_size]; exact h.r.d⟩, h.e, h.t⟩

theorem evOps_ok {E : Env} (hE : EnvOk E) {x0 : Ctx} {w0 : World} {ops : List Oper} {Q : Exit → Act → World → Prop} : ∀ (l : List Oper) (x : Ctx) (w : World) (s : St) (a : Act),
    RelH x0 w0 x s a w → Hold x0 w0 x Q (evOps E ops l s).val → wpList E.P ops.toArray Q l a w
  | [], x, w, s, a, hr, h => h x a w hr (ExtM.refl x)
  | o :: l, x, w, s, a, hr, h => by
    simp only [evOps] at h
    unfold wpList
    rcases guardT_ok (fun _ => stepT_keep hE fun s'' _ => evOps_keep hE l s'') (fun _ => (evOps_keep hE l _).trans (Keep.put _ _ _)) hr h with ⟨hw, s', hr', h'⟩ | ⟨hw, s', hr', h'⟩
    · rw [if_pos hw]
      refine .inl (stepT_ok hE hr' h' fun x' s2 a' w' hr2 hx h2 => evOps_ok hE l x' w' s2 a' hr2 h2)
    · rw [if_neg (by simp [hw])]
      exact evOps_ok hE l x w _ _ (hr'.skip o.dst) h'

/-! ### drawn regions -/
theorem guardB_keep {ops : List Oper} {s : St} {g : Option (Nat × Bool)} {run skip : St → RT Out} (h1 : ∀ s', AllK s' (run s')) (h2 : ∀ s', AllK s' (skip s')) : AllK s (guardB ops s g run skip) := by
  unfold guardB
  repeat' split
  all_goals first
    | exact stop_keep s
    | exact h1 s
    | exact h2 s
    | exact ⟨(h1 _).trans (Keep.put _ _ _), (h2 _).trans (Keep.put _ _ _)⟩
    | exact ⟨(h2 _).trans (Keep.put _ _ _), (h1 _).trans (Keep.put _ _ _)⟩
theorem KeepR.unmask {s : St} {o : Oper} {r : Res} (h : KeepR (mask s o) r) : KeepR s r := ⟨h.bl, h.box, h.gl, h.stg⟩
theorem evOpsD_keep {E : Env} (hE : EnvOk E) {chg : Bool} {cls : List Nat} {ops : List Oper} : ∀ (l : List Oper) (i : Nat) (cs rs : List (Nat × Option Nat)) (s : St), AllK s (evOpsD E chg cls ops l i cs rs s)
  | [], _, _, _, s => Keep.refl s
  | o :: l, i, cs, rs, s => by
    simp only [evOpsD]
    refine guardB_keep (fun s' => ?_) (fun s' => (evOpsD_keep hE l _ _ _ _).trans (Keep.put _ _ _))
    split
    · exact chkT_keep ((evOpsD_keep hE l _ _ _ _).trans (Keep.put _ _ _))
    · split
      · split
        · split
          · exact chkT_keep ((evOpsD_keep hE l _ _ _ _).trans (Keep.put _ _ _))
          · exact stop_keep s'
        · split
          · refine RT.All.bind ((stepRes_keep hE).mono fun r hr => ?_)
            cases r with
            | none => exact stop_keep s'
            | some r =>
              have := (hr r rfl).unmask
              exact chkT_keep ((evOpsD_keep hE l _ _ _ _).trans (this.keep _))
          · exact stop_keep s'
      · exact stop_keep s'
theorem stopAt_all {s : St} {t : RT Out} (h : AllK s t) : AllK s (t.map (stopAt s)) := RT.All.map (h.mono fun o k => by
  unfold stopAt
  split
  · exact Keep.refl s
  · exact k)
theorem preFz_keep : ∀ (l : List Oper) (s : St), Keep s (preFz s l)
  | [], s => Keep.refl s
  | o :: l, s => by
    unfold preFz
    repeat' split
    all_goals first
      | exact preFz_keep l s
      | (rename_i hfz; exact (freezeVs_keep hfz).trans (preFz_keep l _))
theorem preFz_ok {x0 : Ctx} {w0 w : World} {a : Act} : ∀ (l : List Oper) (x : Ctx) (s : St), RelH x0 w0 x s a w → ∃ x', RelH x0 w0 x' (preFz s l) a w ∧ ExtM x x'
  | [], x, s, hr => ⟨x, hr, ExtM.refl x⟩
  | o :: l, x, s, hr => by
    unfold preFz
    repeat' split
    all_goals first
      | exact preFz_ok l x s hr
      | skip
    · rename_i vs hvs _ vs' s' hfz
      obtain ⟨x1, m1, e1, _, k1⟩ := freezeVs_ok hr.r.m (opds_ok hr.r.f hvs) hfz
      have hr1 : RelH x0 w0 x1 s' a w := ⟨⟨by rw [k1.sl]; exact hr.r.f.mono e1, m1, hr.r.d⟩, hr.e.trans e1, hr.t⟩
      obtain ⟨x2, hr2, hx2⟩ := preFz_ok l x1 s' hr1
      exact ⟨x2, hr2, e1.extM.trans hx2⟩
theorem drawnT_keep {E : Env} (hE : EnvOk E) (ops : List Oper) (s : St) : AllK s (drawnT E ops s) :=
  backD_all (squash_keep (s := resetD s) (resetD_empty s) (stopAt_all (evOpsD_keep hE _ _ _ _ _)))
theorem drawnT_ok {E : Env} (hE : EnvOk E) {x0 x : Ctx} {w0 w : World} {s : St} {a : Act} {A : Array Oper} {id : Nat} {Q : Exit → Act → World → Prop} (hP : E.P.follows .mixedOrders = true) (hlex : lexL A.toList = true)
    (hr : RelH x0 w0 x s a w) (h : Hold x0 w0 x Q (drawnT E A.toList s).val) : (Code.region id A true).wp E.P Q a w := by
  unfold drawnT at h
  rw [RT.val_map] at h
  have h' := squash_ok hr.reset (resetD_empty s) (stopAt_all (evOpsD_keep hE _ _ _ _ _)) h.backD
  rw [RT.val_map] at h'
  exact drawn_ok hE hP hlex hr.reset h'

/-! ### code -/
/-- What is to be shown of a loop's oracle. -/
def OraOk (E : Env) (c : Code) (f : Ora) : Prop :=
  (∀ s, AllK s (f s)) ∧ ∀ x0 w0 x s a w Q, RelH x0 w0 x s a w → Hold x0 w0 x Q (f s).val → c.wp E.P Q a w
def LoopsOk (E : Env) : Code → Prop
  | .seq a b => LoopsOk E a ∧ LoopsOk E b
  | .cond _ a b => LoopsOk E a ∧ LoopsOk E b
  | .block id c => match c with
    | .loop b => match E.loops id with
      | some f => OraOk E (.block id (.loop b)) f
      | none => LoopsOk E b
    | c => LoopsOk E c
  | _ => True

theorem evCode_block (E : Env) (id : Nat) (c : Code) (s : St) (hc : ∀ b, c ≠ .loop b) : evCode E (.block id c) s = (squash (len s.mem.boxes) (len s.mem.stgs) ⟨E.named, true⟩ ((evCode E c (resetD s)).map (unexit id))).map (backD s) := by
  cases c <;> first | rfl | exact absurd rfl (hc _)
theorem LoopsOk_block {E : Env} {id : Nat} {c : Code} (hc : ∀ b, c ≠ .loop b) (h : LoopsOk E (.block id c)) : LoopsOk E c := by
  cases c <;> first | exact h | exact absurd rfl (hc _)

theorem unexit_all {s : St} {id : Nat} {t : RT Out} (h : AllK s t) : AllK s (t.map (unexit id)) := RT.All.map (h.mono fun o k => by rw [unexit_s]; exact k)

theorem unroll_keep {round : St → RT Out} (h : ∀ s, AllK s (round s)) : ∀ (n : Nat) (s : St), AllK s (unrollT round n s)
  | 0, s => stop_keep s
  | n + 1, s => by
    unfold unrollT seqT
    refine RT.All.bind ((h s).mono fun o k => ?_)
    split
    · exact (unroll_keep h n o.s).trans k
    · exact k

theorem evCode_keep {E : Env} (hE : EnvOk E) : ∀ (c : Code) (s : St), LoopsOk E c → AllK s (evCode E c s)
  | .skip, s, _ => Keep.refl s
  | .region _ ops draw, s, _ => by
    unfold evCode
    split
    · exact backD_all (squash_keep (s := resetD s) (resetD_empty s) (evOps_keep hE _ _))
    · split
      · exact stop_keep s
      · exact (drawnT_keep hE _ _).trans (preFz_keep _ _)
  | .seq c d, s, h => by
    unfold evCode seqT
    refine RT.All.bind ((evCode_keep hE c s h.1).mono fun o k => ?_)
    split
    · exact (evCode_keep hE d o.s h.2).trans k
    · exact k
  | .cond x c d, s, h => by
    unfold evCode
    split
    · split
      · exact evCode_keep hE c s h.1
      · exact evCode_keep hE d s h.2
    · exact backD_all (fork_keep (s := resetD s) (resetD_empty s) (evCode_keep hE d _ h.2) (evCode_keep hE c _ h.1))
    · exact stop_keep s
  | .block id c, s, h => by
    by_cases hc : ∀ b, c ≠ .loop b
    · rw [evCode_block E id c s hc]
      exact backD_all (squash_keep (s := resetD s) (resetD_empty s) (unexit_all (evCode_keep hE c _ (LoopsOk_block hc h))))
    · have : ∃ b, c = .loop b := by
        cases c <;> first | exact ⟨_, rfl⟩ | exact absurd (fun b e => by cases e) hc
      obtain ⟨b, rfl⟩ := this
      unfold evCode
      unfold LoopsOk at h
      split
      · rename_i f hf
        simp only [hf] at h
        exact h.1 s
      · rename_i hf
        simp only [hf] at h
        exact backD_all (squash_keep (s := resetD s) (resetD_empty s) (unexit_all (unroll_keep (fun s' => evCode_keep hE b s' h) _ _)))
  | .exit _, s, _ => Keep.refl s
  | .ret, s, _ => Keep.refl s
  | .loop _, s, _ => stop_keep s
  | .rangeFunc .., s, _ => stop_keep s
  | .scope _, s, _ => stop_keep s
  | .label _, s, _ => stop_keep s
  | .goto _, s, _ => stop_keep s
  | .refuse _, s, _ => stop_keep s

theorem unroll_ok {P : Program} {x0 : Ctx} {w0 : World} {b : Code} {round : St → RT Out} {Q : Exit → Act → World → Prop}
    (hb : ∀ (x : Ctx) (s : St) (a : Act) (w : World) (Q : Exit → Act → World → Prop), RelH x0 w0 x s a w → Hold x0 w0 x Q (round s).val → b.wp P Q a w) :
    ∀ (n : Nat) (x : Ctx) (s : St) (a : Act) (w : World), RelH x0 w0 x s a w → Hold x0 w0 x Q (unrollT round n s).val → Code.rounds P b Q n a w
  | 0, x, s, a, w, hr, h => (Hold.stop hr h).elim
  | n + 1, x, s, a, w, hr, h => by
    rw [rounds_succ]
    unfold unrollT seqT at h
    rw [RT.val_bind] at h
    refine hb x s a w _ hr fun x' a' w' hr' hx' => ?_
    generalize hv : (round s).val = o at *
    obtain ⟨k, s'⟩ := o
    cases k with
    | normal => exact unroll_ok hb n x' s' a' w' hr' (h.ext hx')
    | exit i => exact h x' a' w' hr' hx'
    | ret => exact h x' a' w' hr' hx'
    | stop => exact h x' a' w' hr' hx'

/-- The symbolic executor is sound. -/
theorem evCode_ok {E : Env} (hE : EnvOk E) {x0 : Ctx} {w0 : World} : ∀ (c : Code), LoopsOk E c → ∀ (x : Ctx) (s : St) (a : Act) (w : World) (Q : Exit → Act → World → Prop),
    RelH x0 w0 x s a w → Hold x0 w0 x Q (evCode E c s).val → c.wp E.P Q a w
  | .skip, _, x, s, a, w, Q, hr, h => wp_skip (h x a w hr (ExtM.refl x))
  | .region id ops draw, _, x, s, a, w, Q, hr, h => by
    unfold evCode at h
    split at h
    · rw [RT.val_map] at h
      have h' := squash_ok hr.reset (resetD_empty s) (evOps_keep hE _ _) h.backD
      exact wp_region_list (by have := evOps_ok hE ops.toList x w _ a hr.reset h'; simpa using this)
    · split at h
      · exact (Hold.stop hr h).elim
      · rename_i hd
        simp only [Bool.and_eq_true] at hd
        obtain ⟨x', hr', hx'⟩ := preFz_ok ops.toList x s hr
        exact drawnT_ok hE hd.2 hd.1 hr' (h.ext hx')
  | .seq c d, hl, x, s, a, w, Q, hr, h => by
    unfold evCode seqT at h
    rw [RT.val_bind] at h
    refine wp_seq (evCode_ok hE c hl.1 x s a w _ hr fun x' a' w' hr' hx' => ?_)
    generalize hv : (evCode E c s).val = o at *
    obtain ⟨k, s'⟩ := o
    cases k with
    | normal => exact evCode_ok hE d hl.2 x' s' a' w' Q hr' (h.ext hx')
    | exit i => exact h x' a' w' hr' hx'
    | ret => exact h x' a' w' hr' hx'
    | stop => exact h x' a' w' hr' hx'
  | .cond y c d, hl, x, s, a, w, Q, hr, h => by
    unfold evCode at h
    split at h
    · rename_i b hb
      have hv := bool_of (opd1_ok hr.r.f hb)
      cases b with
      | true => exact wp_cond_true hv (evCode_ok hE c hl.1 x s a w Q hr h)
      | false => exact wp_cond_false hv (evCode_ok hE d hl.2 x s a w Q hr h)
    · rename_i b hb
      have hv := bool_of (opd1_ok hr.r.f hb)
      rw [RT.val_map] at h
      have hr' : RelH x0 w0 x (resetD s) a w := hr.ofMem rfl rfl
      have h' := fork_ok hr' (evCode_keep hE d _ hl.2) (evCode_keep hE c _ hl.1) h.backD
      cases b with
      | true => exact wp_cond_true hv (evCode_ok hE c hl.1 x _ a w Q hr' h')
      | false => exact wp_cond_false hv (evCode_ok hE d hl.2 x _ a w Q hr' h')
    · exact (Hold.stop hr h).elim
  | .block id c, hl, x, s, a, w, Q, hr, h => by
    by_cases hc : ∀ b, c ≠ .loop b
    · rw [evCode_block E id c s hc, RT.val_map] at h
      have hr' : RelH x0 w0 x (resetD s) a w := hr.ofMem rfl rfl
      have h' := squash_ok hr' (resetD_empty s) (unexit_all (evCode_keep hE c _ (LoopsOk_block hc hl))) h.backD
      rw [RT.val_map] at h'
      exact wp_block (evCode_ok hE c (LoopsOk_block hc hl) x _ a w _ hr' h'.unexit)
    · have : ∃ b, c = .loop b := by
        cases c <;> first | exact ⟨_, rfl⟩ | exact absurd (fun b e => by cases e) hc
      obtain ⟨b, rfl⟩ := this
      unfold evCode at h
      unfold LoopsOk at hl
      split at h
      · rename_i f hf
        simp only [hf] at hl
        exact hl.2 x0 w0 x s a w Q hr h
      · rename_i hf
        simp only [hf] at hl
        rw [RT.val_map] at h
        have hr' : RelH x0 w0 x (resetD s) a w := hr.ofMem rfl rfl
        have h' := squash_ok hr' (resetD_empty s) (unexit_all (unroll_keep (fun s' => evCode_keep hE b s' hl) _ _)) h.backD
        rw [RT.val_map] at h'
        exact wp_block (wp_loop_rounds E.fuel (unroll_ok (fun x s a w Q hr h => evCode_ok hE b hl x s a w Q hr h) E.fuel x _ a w hr' h'.unexit))
  | .exit i, _, x, s, a, w, Q, hr, h => wp_exit (h x a w hr (ExtM.refl x))
  | .ret, _, x, s, a, w, Q, hr, h => wp_ret (h x a w hr (ExtM.refl x))
  | .loop _, _, x, s, a, w, Q, hr, h => (Hold.stop hr h).elim
  | .rangeFunc .., _, x, s, a, w, Q, hr, h => (Hold.stop hr h).elim
  | .scope _, _, x, s, a, w, Q, hr, h => (Hold.stop hr h).elim
  | .label _, _, x, s, a, w, Q, hr, h => (Hold.stop hr h).elim
  | .goto _, _, x, s, a, w, Q, hr, h => (Hold.stop hr h).elim
  | .refuse _, _, x, s, a, w, Q, hr, h => (Hold.stop hr h).elim
end Go.S3
