/-
  The symbolic executor's contract of a function. Conditions: none (lemmas).
-/
import Derived.Test.YtiflfdlglncjlaaS3Sound
set_option linter.unusedSimpArgs false
set_option linter.unusedVariables false
namespace Go.S3

def resG (tmps : Array Value) : ResultVar → Sem Value
  | .tmp t => pure (tmps.getD t undef)
  | .cell c t => do loadVar t (← asAddr (tmps.getD c undef))
theorem results_eq (fn : Func) (tmps : Array Value) : results fn tmps = (do let vs ← fn.results.mapM (resG tmps); pure (if h : vs.size = 1 then vs[0] else .tuple vs)) := by
  unfold results
  congr 1

theorem resultOf_ok {P : Program} {x : Ctx} {w : World} {s : St} {a : Act} (hr : Rel x s a w) : ∀ (l : List ResultVar) (ws : List W), resultOf P s l = some ws →
    ∃ vs, RWs x ws vs ∧ (l.mapM (resG a.tmps)).run P w = .ok vs w
  | [], ws, h => by
    simp only [resultOf, Option.some.injEq] at h; subst h
    exact ⟨[], trivial, by simp⟩
  | .tmp t :: l, ws, h => by
    simp only [resultOf] at h
    split at h
    · rename_i y r hy hl
      simp only [Option.some.injEq] at h; subst h
      obtain ⟨vs, h1, h2⟩ := resultOf_ok hr l r hl
      refine ⟨a.tmps.getD t undef :: vs, ⟨hr.f.slot t _ hy, h1⟩, ?_⟩
      rw [List.mapM_cons]
      simp only [resG, Sem.run_bind, Sem.run_pure, Result.andThen_ok]
      rw [h2]; rfl
    · simp at h
  | .cell t ty :: l, ws, h => by
    simp only [resultOf] at h
    split at h
    · rename_i p r hp hl
      split at h
      · rename_i y hy
        simp only [Option.some.injEq] at h; subst h
        obtain ⟨vs, h1, h2⟩ := resultOf_ok hr l r hl
        have hpv := hr.f.slot t _ hp
        obtain ⟨u, h3, h4⟩ := loadA_ok (P := P) hr.m.toR hpv hy
        have h3 := h3 w (OldSame.refl w)
        refine ⟨u :: vs, ⟨h4, h1⟩, ?_⟩
        rw [List.mapM_cons]
        have h5 : (resG a.tmps (.cell t ty)).run P w = .ok u w := by
          show ((do loadVar ty (← asAddr (a.tmps.getD t undef)) : Sem Value)).run P w = .ok u w
          unfold loadA at hy
          split at hy
          · rename_i q hq
            obtain ⟨b, o, e, _⟩ := cellsAt_ok hr.m.toR hpv hq
            rw [e] at h3 ⊢
            simpa [Instr.loadAt, Instr.sureAddr, asAddr] using h3
          · simp at hy
        rw [Sem.run_bind, h5]
        simp only [Result.andThen_ok]
        rw [Sem.run_bind, h2]; rfl
      · simp at h
    · simp at h

theorem resultV_ok {P : Program} {x : Ctx} {w : World} {s : St} {a : Act} (hr : Rel x s a w) {fn : Func} {v : V} (h : resultV P fn s = some v) :
    ∃ val, (results fn a.tmps).run P w = .ok val w ∧ RV x v val := by
  unfold resultV at h
  have key : ∀ ws, resultOf P s fn.results.toList = some ws → ∃ vs, RWs x ws vs ∧ (fn.results.mapM (resG a.tmps)).run P w = .ok vs.toArray w := by
    intro ws hws
    obtain ⟨vs, h1, h2⟩ := resultOf_ok (P := P) hr _ _ hws
    refine ⟨vs, h1, ?_⟩
    rw [Array.mapM_eq_mapM_toList, Sem.run_map, h2]
    rfl
  have fin : ∀ vs : List Value, (fn.results.mapM (resG a.tmps)).run P w = .ok vs.toArray w →
      (results fn a.tmps).run P w = .ok (if h : vs.toArray.size = 1 then vs.toArray[0] else .tuple vs.toArray) w := by
    intro vs hvs
    rw [results_eq, Sem.run_bind, hvs]
    rfl
  split at h
  · rename_i y hy
    simp only [Option.some.injEq] at h; subst h
    obtain ⟨vs, h1, h2⟩ := key _ hy
    match vs, h1 with
    | [u], h1 => exact ⟨u, by have := fin [u] h2; simpa using this, h1.1⟩
  · rename_i l hne hl
    simp only [Option.some.injEq] at h; subst h
    obtain ⟨vs, h1, h2⟩ := key _ hl
    refine ⟨.tuple vs.toArray, ?_, vs, rfl, h1⟩
    have := fin vs h2
    rw [this]
    have hlen : vs.toArray.size ≠ 1 := by
      intro e
      match vs, h1 with
      | [u], h1 =>
        match l, h1 with
        | [y], _ => exact hne y rfl
      | [], _ => simp at e
      | _ :: _ :: _, _ => simp at e
    rw [dif_neg hlen]
  · simp at h

theorem rep_eq {α : Type} (x : α) : ∀ n, rep x n = List.replicate n x
  | 0 => rfl
  | n + 1 => by simp [rep, rep_eq x n, List.replicate_succ]
theorem RVs.length {x : Ctx} : ∀ {l : List V} {vs : List Value}, RVs x l vs → l.length = vs.length
  | [], [], _ => rfl
  | _ :: l, _ :: r, h => by have := RVs.length (l := l) (vs := r) h.2; simp only [List.length_cons, this]
  | [], _ :: _, h => h.elim
  | _ :: _, [], h => h.elim
theorem RVs.nth {x : Ctx} : ∀ {l : List V} {vs : List Value}, RVs x l vs → ∀ (j : Nat) (a : V), nth l j = some a → ∃ v, vs[j]? = some v ∧ RV x a v
  | [], [], _, j, a, e => by simp [S3.nth] at e
  | b :: l, v :: r, h, 0, a, e => by simp [S3.nth] at e; subst e; exact ⟨v, by simp, h.1⟩
  | b :: l, v :: r, h, j + 1, a, e => by simp only [S3.nth] at e; simpa using RVs.nth h.2 j a e
  | [], _ :: _, h, _, _, _ => h.elim
  | _ :: _, [], h, _, _, _ => h.elim

theorem start_ok {x : Ctx} {m : Mem} {w : World} (hm : MemOk x m w) {vs : List V} {args : List Value} (hv : RVs x vs args) (fn : Func) :
    Rel x (start fn vs m) { tmps := args.toArray ++ Array.replicate (fn.ntmps - args.toArray.size) undef, defers := [] } w := by
  have hl := hv.length
  refine ⟨⟨?_, fun i v h => ?_⟩, hm, rfl⟩
  · simp [start, rep_eq, len_eq, hl]
  · simp only [start, rep_eq, len_eq] at h
    rw [nth_eq] at h
    by_cases hi : i < vs.length
    · rw [List.getElem?_append_left hi, ← nth_eq] at h
      obtain ⟨u, h1, h2⟩ := hv.nth i v h
      have : (args.toArray ++ Array.replicate (fn.ntmps - args.toArray.size) undef).getD i undef = u := by
        rw [Array.getD_eq_getD_getElem?, Array.getElem?_append_left (by simp; omega)]
        simp [h1]
      rw [this]; exact h2
    · rw [List.getElem?_append_right (by omega)] at h
      have hv : v = undefV := by
        rw [List.getElem?_replicate] at h
        split at h <;> simp at h
        exact h.symm
      subst hv
      have : (args.toArray ++ Array.replicate (fn.ntmps - args.toArray.size) undef).getD i undef = undef := by
        rw [Array.getD_eq_getD_getElem?, Array.getElem?_append_right (by simp; omega)]
        rw [Array.getElem?_replicate]
        split <;> rfl
      rw [this]
      exact ⟨[], rfl, trivial⟩

/-- What the executor finds of a function, a call of it does. -/
theorem calls_of_ev {E : Env} (hE : EnvOk E) {f : FuncId} {fn : Func} {c : Code} (hf : E.P.funcs[f]? = some fn) (hb : fn.body = some c) (hl : LoopsOk E c)
    {x : Ctx} {m : Mem} {w : World} {vs : List V} {args : List Value} (hm : MemOk x m w) (hv : RVs x vs args) {r : Res} (h : (evFunc E fn vs m).val = some r) :
    Calls E.P f args.toArray w (fun e w' => ∃ val x', e = .returned val ∧ RV x' r.v val ∧ MemOk x' r.m w' ∧ Ext x x' ∧ Step x w w') := by
  unfold evFunc at h
  rw [hb] at h
  simp only [RT.val_map] at h
  refine calls_of_wp hf hb (evCode_ok hE (x0 := x) (w0 := w) c hl x _ _ w _ ⟨start_ok hm hv fn, Ext.refl x, Step.refl x w⟩ ?_)
  intro x' a' w' hr _
  generalize hv : (evCode E c (start fn vs m)).val = o at *
  have fin : ∀ s' v, o.s = s' → resultV E.P fn s' = some v → ofSt s' none v = r → a'.defers = [] ∧ ∃ val, (results fn a'.tmps).run E.P w' = .ok val w' ∧
      (∃ val' x'', Ending.returned val = Ending.returned val' ∧ RV x'' r.v val' ∧ MemOk x'' r.m w' ∧ Ext x x'' ∧ Step x w w') := by
    intro s' v hs hrv hmm
    subst hs
    obtain ⟨val, h1, h2⟩ := resultV_ok hr.r hrv
    subst hmm
    exact ⟨hr.r.d, val, h1, val, x', rfl, h2, hr.r.m, hr.e, hr.t⟩
  unfold finish at h
  split at h
  · rename_i hk
    rw [hk]
    split at h
    · rename_i u hu
      simp only [Option.some.injEq] at h
      exact fin o.s u rfl hu h
    · simp at h
  · rename_i hk
    rw [hk]
    split at h
    · rename_i u hu
      simp only [Option.some.injEq] at h
      exact fin o.s u rfl hu h
    · simp at h
  · simp at h

theorem finish_keep {P : Program} {fn : Func} {vs : List V} {m : Mem} {o : Out} (h : Keep (start fn vs m) o.s) {r : Res} (hr : finish P fn o = some r) : KeepC m r := by
  have fin : ∀ v, ofSt o.s none v = r → KeepC m r := by
    intro v hv; subst hv
    exact ⟨h.bl, fun b l hl => by
      obtain ⟨l', h1, h2, h3⟩ := h.box b l hl
      exact ⟨l', h1, h2, fun j hj => (h3 j hj).2⟩, h.gl, fun i g hg => by
      obtain ⟨g', h1, h2, h3⟩ := h.stg i g hg
      exact ⟨g', h1, h2, fun hj => (h3 hj).2⟩⟩
  unfold finish at hr
  split at hr
  · split at hr
    · simp only [Option.some.injEq] at hr; exact fin _ hr
    · simp at hr
  · split at hr
    · simp only [Option.some.injEq] at hr; exact fin _ hr
    · simp at hr
  · simp at hr
theorem evFunc_keep {E : Env} (hE : EnvOk E) {fn : Func} {c : Code} (hb : fn.body = some c) (hl : LoopsOk E c) (vs : List V) (m : Mem) : (evFunc E fn vs m).All (fun r => ∀ q, r = some q → KeepC m q) := by
  unfold evFunc
  rw [hb]
  exact RT.All.map ((evCode_keep hE c _ hl).mono fun o h q hq => finish_keep h hq)

/-- A function is walked through wherever it is called. -/
theorem inline_ok {E : Env} (hE : EnvOk E) {f : FuncId} {fn : Func} {c : Code} (hf : E.P.funcs[f]? = some fn) (hb : fn.body = some c) (hl : LoopsOk E c) (hcall : Callable E.P f) :
    EntryOk E.P f (.tree (evFunc E fn)) :=
  ⟨hcall, evFunc_keep hE hb hl, fun _ _ _ hr _ _ _ _ hm hv => calls_of_ev hE hf hb hl hm hv hr⟩

/-- The context of a call that is handed no memory of the caller's that it may write. -/
def Ctx.own0 (w : World) (fz : Nat → Nat → Option Value) : Ctx := { own := fun k => w.heap.size ≤ k, M := [], S := [], fz := fz }
theorem own0_ok {x : Ctx} {m : Mem} {w : World} (hm : MemOk x m w) : MemOk (Ctx.own0 w x.fz) emptyM w where
  fresh := fun _ h => h
  fz := hm.fz
  ml := rfl
  box := fun b l p h => by simp [emptyM, nth_nil] at h
  mown := fun b p h => by simp [Ctx.own0, nth_nil] at h
  inj := fun b b' p h => by simp [Ctx.own0, nth_nil] at h
  sl := rfl
  stg := fun i g s h => by simp [emptyM, nth_nil] at h
  sown := fun i s p cap h => by simp [Ctx.own0, nth_nil] at h
  sinj := fun i i' s s' p cap cap' h => by simp [Ctx.own0, nth_nil] at h
theorem sameC_of_step {w w' : World} {fz : Nat → Nat → Option Value} (h : Step (Ctx.own0 w fz) w w') : SameC w w' :=
  ⟨⟨h.size, fun k hk => h.block k (by simp [Ctx.own0]; omega)⟩, h.os, h.tape, h.output⟩

/-- The caller's context behind a call that has frozen cells of its own. -/
theorem back_ok {x : Ctx} {m : Mem} {w w' : World} {x2 : Ctx} (hm : MemOk x m w) (hx : Ext (Ctx.own0 w x.fz) x2) (hz : ∀ b o v, x2.fz b o = some v → w'.cell? ⟨b, o, none⟩ = some v) (hs : OldSame w w') :
    MemOk { x with fz := x2.fz } m w' ∧ Ext x { x with fz := x2.fz } := by
  have hold : ∀ b, b < w.heap.size → ∀ o, x2.fz b o = x.fz b o := by
    intro b hb o
    cases h : x2.fz b o with
    | some v =>
      rcases hx.new b o v h with e | e
      · exact e.symm
      · simp [Ctx.own0] at e; omega
    | none =>
      cases h' : x.fz b o with
      | none => rfl
      | some v => rw [hx.fz b o v h'] at h; simp at h
  have hle : FzLe x { x with fz := x2.fz } := fun b o v e => hx.fz b o v e
  have hext : Ext x { x with fz := x2.fz } := by
    refine ⟨rfl, fun _ _ e => e, fun _ s e => ⟨s, e, SLe.refl s⟩, hx.fz, fun b o v e => ?_⟩
    rcases hx.new b o v e with e | e
    · exact .inl e
    · exact .inr (hm.fresh b e)
  refine ⟨?_, hext⟩
  have h := hm.old hs
  refine ⟨h.fresh, hz, h.ml, fun b l p h1 h2 => ?_, fun b p h1 => ⟨(h.mown b p h1).1, fun o => ?_⟩, h.inj, h.sl, fun i g s h1 h2 => ?_, h.sown, h.sinj⟩
  · obtain ⟨C, T, e1, e2⟩ := h.box b l p h1 h2
    exact ⟨C, T, e1, e2.mono hext⟩
  · show x2.fz p o = none
    rw [hold p (hm.M_lt h1) o]; exact (hm.mown b p h1).2 o
  · exact (h.stg i g s h1 h2).ctx hle fun p cap hb o => hold p (hm.S_lt h2 hb) o
end Go.S3
