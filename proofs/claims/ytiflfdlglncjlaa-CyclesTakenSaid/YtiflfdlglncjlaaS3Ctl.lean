/-
  Soundness of the symbolic executor, part 11: operations and calls. Conditions: none (lemmas).
-/
import Derived.Test.YtiflfdlglncjlaaS3Fork
set_option linter.unusedSimpArgs false
set_option linter.unusedVariables false
namespace Go.S3

theorem RelH.same {x0 x : Ctx} {w0 w w' : World} {s : St} {a : Act} (h : RelH x0 w0 x s a w) (hw : SameC w w') : RelH x0 w0 x s a w' :=
  ⟨⟨h.r.f, h.r.m.old hw.1, h.r.d⟩, h.e, h.t.trans (hw.step h.r.m) h.e.own⟩

def Callable (P : Program) (f : FuncId) : Prop := ∀ (args : Array Value) (w : World), (callFunc f args).run P w = .ok (.enter f args) w

/-- The function looks at the boxes that it is handed, and at slices, and at no other box. -/
def LocalG (g : List V → Mem → Option (Option Bool × V)) : Prop := ∀ vs m m' r, g vs m = some r → m'.stgs = m.stgs → (∀ b o, V.w (.one (.loc b o)) ∈ vs → nth m'.boxes b = nth m.boxes b) → g vs m' = some r
/-- What a contract of a call says. -/
def EntryOk (P : Program) (f : FuncId) : Entry → Prop
  | .pure p => Callable P f ∧ ∀ vs chk v, p vs = some (chk, v) → chk ≠ some false → ∀ x m w args, MemOk x m w → RVs x vs args →
      Calls P f args.toArray w (fun e w' => ∃ val x', e = .returned val ∧ RV x' v val ∧ MemOk x' m w' ∧ Ext x x' ∧ SameC w w')
  | .tree g => Callable P f ∧ (∀ vs m, (g vs m).All (fun r => ∀ q, r = some q → KeepC m q)) ∧ ∀ vs m r, (g vs m).val = some r → r.chk ≠ some false → ∀ x w args, MemOk x m w → RVs x vs args →
      Calls P f args.toArray w (fun e w' => ∃ val x', e = .returned val ∧ RV x' r.v val ∧ MemOk x' r.m w' ∧ Ext x x' ∧ Step x w w')
  | .read g => Callable P f ∧ LocalG g ∧ ∀ vs m chk v, g vs m = some (chk, v) → chk ≠ some false → ∀ x w args, MemOk x m w → RVs x vs args →
      Calls P f args.toArray w (fun e w' => ∃ val x', e = .returned val ∧ RV x' v val ∧ MemOk x' m w' ∧ Ext x x' ∧ SameC w w')
theorem EntryOk.callable {P : Program} {f : FuncId} : ∀ {e : Entry}, EntryOk P f e → Callable P f
  | .pure _, h => h.1
  | .tree _, h => h.1
  | .read _, h => h.1
def EnvOk (E : Env) : Prop := ∀ f e, E.calls f = some e → EntryOk E.P f e

theorem Hold.stop {x0 x : Ctx} {w0 w : World} {s : St} {a : Act} {Q : Exit → Act → World → Prop} (hr : RelH x0 w0 x s a w) (h : Hold x0 w0 x Q ⟨.stop, s⟩) : False :=
  h x a w hr (ExtM.refl x)
theorem Hold.chk {x0 x : Ctx} {w0 w : World} {s : St} {a : Act} {Q : Exit → Act → World → Prop} {c : Option Bool} {t : RT Out} (hr : RelH x0 w0 x s a w) (h : Hold x0 w0 x Q (chkT c s t).val) :
    c ≠ some false ∧ Hold x0 w0 x Q t.val := by
  cases c with
  | none => exact ⟨by simp, h⟩
  | some b =>
    cases b with
    | true => exact ⟨by simp, h⟩
    | false => exact (Hold.stop hr h).elim

theorem put_size (a : Act) (d : Option Nat) (v : Value) : (a.put d v).defers = a.defers := by cases d <;> rfl
theorem RF.put {x : Ctx} {s : St} {a : Act} (h : RF x s.slots a.tmps) (d : Option Nat) {v : V} {u : Value} (hv : RV x v u) : RF x (S3.put s d v).slots (a.put d u).tmps := by
  cases d with
  | none => exact h
  | some d => exact h.set d hv

theorem put_mem (s : St) (d : Option Nat) (v : V) : (S3.put s d v).mem = s.mem := by cases d <;> rfl

theorem RelH.putRes {x0 x x' : Ctx} {w0 w w' : World} {s : St} {a : Act} {r : Res} {v : Value} (h : RelH x0 w0 x s a w) (d : Option Nat) (hv : RV x' r.v v) (hm : MemOk x' r.m w') (he : Ext x x') (ht : Step x w w') :
    RelH x0 w0 x' (S3.putRes s d r) (a.put d v) w' :=
  ⟨⟨RF.put (s := { s with mem := r.m, bd := r.bd, sd := r.sd }) (h.r.f.mono he) d hv, by rw [S3.putRes, put_mem]; exact hm, by rw [put_size]; exact h.r.d⟩, h.e.trans he, h.t.trans ht h.e.own⟩

theorem Hold.ext {x0 x x' : Ctx} {w0 : World} {Q : Exit → Act → World → Prop} {o : Out} (h : Hold x0 w0 x Q o) (e : ExtM x x') : Hold x0 w0 x' Q o :=
  fun y a w hr k => h y a w hr (e.trans k)

/-! ### calls -/
theorem foldMin_run {P : Program} {x : Ctx} : ∀ (vs : List V) (args : List Value) (l l' : Bool) (k k' : IntKind) (n n' : Int), RVs x vs args → inR k n → foldMin (l, k, n) vs = some (l', k', n') →
    inR k' n' ∧ ∀ w, (args.foldlM Builtin.min2 (.int k n)).run P w = .ok (.int k' n') w
  | [], [], l, l', k, k', n, n', _, hk, h => by
    simp only [foldMin, Option.some.injEq, Prod.mk.injEq] at h
    obtain ⟨_, rfl, rfl⟩ := h
    exact ⟨hk, fun w => rfl⟩
  | v :: vs, u :: args, l, l', k, k', n, n', hv, hk, h => by
    unfold foldMin at h
    split at h
    · simp at *
    · rename_i l1 k1 n1 r heq
      obtain ⟨rfl, rfl⟩ := heq
      split at h
      · rename_i hkk
        have := sameK_eq hkk
        subst this
        obtain ⟨e1, e2⟩ := int_of (show RA x (.int l1 k1 n1) u from hv.1)
        subst e1
        obtain ⟨h1, h2⟩ := foldMin_run vs args _ _ _ _ _ _ hv.2 (by simp only; split <;> assumption) h
        refine ⟨h1, fun w => ?_⟩
        simp only [List.foldlM_cons, Sem.run_bind, Builtin.min2, Sem.run_pure, Result.andThen_ok]
        exact h2 w
      · simp at h
    · simp at h
  | [], _ :: _, _, _, _, _, _, _, h, _, _ => h.elim
  | _ :: _, [], _, _, _, _, _, _, h, _, _ => h.elim
theorem foldMax_run {P : Program} {x : Ctx} : ∀ (vs : List V) (args : List Value) (l l' : Bool) (k k' : IntKind) (n n' : Int), RVs x vs args → inR k n → foldMax (l, k, n) vs = some (l', k', n') →
    inR k' n' ∧ ∀ w, (args.foldlM Builtin.max2 (.int k n)).run P w = .ok (.int k' n') w
  | [], [], l, l', k, k', n, n', _, hk, h => by
    simp only [foldMax, Option.some.injEq, Prod.mk.injEq] at h
    obtain ⟨_, rfl, rfl⟩ := h
    exact ⟨hk, fun w => rfl⟩
  | v :: vs, u :: args, l, l', k, k', n, n', hv, hk, h => by
    unfold foldMax at h
    split at h
    · simp at *
    · rename_i l1 k1 n1 r heq
      obtain ⟨rfl, rfl⟩ := heq
      split at h
      · rename_i hkk
        have := sameK_eq hkk
        subst this
        obtain ⟨e1, e2⟩ := int_of (show RA x (.int l1 k1 n1) u from hv.1)
        subst e1
        obtain ⟨h1, h2⟩ := foldMax_run vs args _ _ _ _ _ _ hv.2 (by simp only; split <;> assumption) h
        refine ⟨h1, fun w => ?_⟩
        simp only [List.foldlM_cons, Sem.run_bind, Builtin.max2, Sem.run_pure, Result.andThen_ok]
        exact h2 w
      · simp at h
    · simp at h
  | [], _ :: _, _, _, _, _, _, _, h, _, _ => h.elim
  | _ :: _, [], _, _, _, _, _, _, h, _, _ => h.elim
/-- A builtin that leaves memory alone. -/
theorem builtinA_free {P : Program} {x : Ctx} {s : St} {w : World} {b : Builtin} {ts : List TypeId} {vs : List V} {args : List Value} {r : Res} (ty : TypeId) (cs : Array Bool) (hm : MemR x s.mem w) (hv : RVs x vs args) (hb : b ≠ .append) (h : builtinA P s b ts vs = some r) :
    ∃ v, (∀ w', (builtin b ts.toArray ty cs args.toArray).run P w' = .ok (.value v) w') ∧ RV x r.v v := by
  unfold builtinA at h
  split at h
  · rename_i l k n vs'
    split at h
    · rename_i l' k' n' hf
      simp only [pureR, Option.some.injEq] at h; subst h
      cases args with
      | nil => exact hv.elim
      | cons u args =>
        obtain ⟨e1, e2⟩ := int_of (show RA x (.int l k n) u from hv.1)
        subst e1
        obtain ⟨h1, h2⟩ := foldMin_run (P := P) vs' args _ _ _ _ _ _ hv.2 e2 hf
        exact ⟨_, fun w => by simp [builtin, Builtin.min_, h2 w], .int _ _ _ _ h1⟩
    · simp at h
  · rename_i l k n vs'
    split at h
    · rename_i l' k' n' hf
      simp only [pureR, Option.some.injEq] at h; subst h
      cases args with
      | nil => exact hv.elim
      | cons u args =>
        obtain ⟨e1, e2⟩ := int_of (show RA x (.int l k n) u from hv.1)
        subst e1
        obtain ⟨h1, h2⟩ := foldMax_run (P := P) vs' args _ _ _ _ _ _ hv.2 e2 hf
        exact ⟨_, fun w => by simp [builtin, Builtin.max_, h2 w], .int _ _ _ _ h1⟩
    · simp at h
  · rename_i t v
    match args, hv with
    | [u], hv =>
      obtain ⟨_, _, _, u', h1, h2⟩ := lenA_ok (P := P) (ty := ty) hm hv.1 h
      exact ⟨u', fun w' => by simp [builtin, h1 w'], h2⟩
  · exact absurd rfl hb
  · simp at h
theorem builtinA_ok {P : Program} {x : Ctx} {s : St} {w : World} {b : Builtin} {ts : List TypeId} {vs : List V} {args : List Value} {r : Res} (ty : TypeId) (cs : Array Bool) (hm : MemOk x s.mem w) (hv : RVs x vs args) (h : builtinA P s b ts vs = some r) (hc : r.chk ≠ some false) :
    ∃ v w' x', (builtin b ts.toArray ty cs args.toArray).run P w = .ok (.value v) w' ∧ RV x' r.v v ∧ MemOk x' r.m w' ∧ Ext x x' ∧ Step x w w' := by
  by_cases hb : b = .append
  · subst hb
    unfold builtinA at h
    split at h
    all_goals try (rename Builtin.append = _ => heq; cases heq; done)
    · rename_i t t' xa ya
      match args, hv with
      | [u, u'], hv =>
        obtain ⟨v, w', x', h1, h2, h3, h4, h5⟩ := appendA_ok (P := P) hm hv.1 hv.2.1 ty h hc
        exact ⟨v, w', x', by simp [builtin, h1], h2, h3, h4, h5⟩
    · simp at h
  · obtain ⟨v, h1, h2⟩ := builtinA_free ty cs hm.toR hv hb h
    have hk : r.m = s.mem := by
      unfold builtinA at h
      split at h
      · split at h
        · simp only [pureR, Option.some.injEq] at h; subst h; rfl
        · simp at h
      · split at h
        · simp only [pureR, Option.some.injEq] at h; subst h; rfl
        · simp at h
      · unfold lenA at h
        repeat' split at h
        all_goals first
          | (simp only [pureR, Option.some.injEq] at h; subst h; rfl)
          | (simp at h; done)
      · exact absurd rfl hb
      · simp at h
    exact ⟨v, w, x, h1 w, h2, by rw [hk]; exact hm, Ext.refl x, Step.refl x w⟩

theorem RVs.append {x : Ctx} : ∀ {l l' : List V} {vs vs' : List Value}, RVs x l vs → RVs x l' vs' → RVs x (l ++ l') (vs ++ vs')
  | [], _, [], _, _, h' => by simpa using h'
  | _ :: _, _, _ :: _, _, h, h' => ⟨h.1, RVs.append h.2 h'⟩
  | [], _, _ :: _, _, h, _ => h.elim
  | _ :: _, _, [], _, h, _ => h.elim
theorem RVs_of_caps {x : Ctx} : ∀ (caps : List A) (cs : List Value) (c : Nat → Value), len cs = len caps → (∀ j a, nth caps j = some a → nth cs j = some (c j)) → (∀ j a, nth caps j = some a → RA x a (c j)) →
    RVs x (caps.map fun a => .w (.one a)) cs
  | [], [], _, _, _, _ => trivial
  | a :: caps, v :: cs, c, hl, hc, hr => by
    refine ⟨?_, RVs_of_caps caps cs (fun j => c (j + 1)) (by simpa [len] using hl) (fun j a h => hc (j + 1) a h) (fun j a h => hr (j + 1) a h)⟩
    have h1 := hc 0 a rfl
    have h2 := hr 0 a rfl
    simp only [nth, Option.some.injEq] at h1
    subst h1; exact h2
  | [], _ :: _, _, h, _, _ => by simp [len] at h
  | _ :: _, [], _, h, _, _ => by simp [len] at h

theorem calleeOf_ok {E : Env} (hE : EnvOk E) {x : Ctx} {s : St} {a : Act} (hf : RF x s.slots a.tmps) {o : Oper} {c : Call} (ho : o.op = .call c) {e : Entry} {caps : List V} (h : calleeOf E s c = some (e, caps)) {vs : List V}
    (hvs : opds s c.args.toList = some vs) :
    ∃ f args, EntryOk E.P f e ∧ RVs x (vs ++ caps) args ∧ (Callable E.P f → ∀ w, (execOp a.eval o).run E.P w = .ok (.enter f args.toArray) w) := by
  unfold calleeOf at h
  split at h
  · rename_i fo hc
    split at h
    · rename_i f cs hcs
      split at h
      · rename_i e' he
        simp only [Option.some.injEq, Prod.mk.injEq] at h
        obtain ⟨rfl, rfl⟩ := h
        have hv := opd1_ok hf hcs
        generalize hev : a.eval fo = fv at *
        cases hv with
        | clo _ _ _ C cc h1 h2 h3 =>
          refine ⟨f, c.args.toList.map a.eval ++ C, hE f e' he, RVs.append (opds_ok hf hvs) (RVs_of_caps _ _ _ h1 h2 h3), fun hcall w => ?_⟩
          simp [execOp, ho, resolve, hc, hev, Deferred.ofValue, invoke]
          rw [hcall]
          congr 2
          apply Array.ext'; simp
      · simp at h
    · simp at h
  · simp at h

theorem wp_of_gives {P : Program} {a : Act} {o : Oper} {w w' : World} {v : Value} {next : Act → World → Prop} {Q : Exit → Act → World → Prop} (h : Gives P a o w v w') (hn : next (a.put o.dst v) w') : o.wp P a w next Q := by
  rcases h with h | ⟨h, rfl⟩
  · simp only [Oper.wp, h, Oper.upon]; exact hn
  · simp only [Oper.wp, h, Oper.upon]; exact hn

theorem builtin_run {P : Program} {a : Act} {o : Oper} {c : Call} {b : Builtin} (ho : o.op = .call c) (hc : c.callee = .builtin b) (w : World) :
    (execOp a.eval o).run P w = (builtin b c.argTypes o.type (c.args.map fun | .const _ => true | _ => false) (c.args.toList.map a.eval).toArray).run P w := by
  simp [execOp, ho, resolve, hc, invoke]
  congr 2
  apply Array.ext'; simp


theorem armsIdx_val {P : Program} {s : St} {t : TypeId} {x : A} {k : IntKind} {n : Int} {r : Res} : ∀ {m j : Nat}, (armsIdx P s t x k n m j).val = some r → ∃ j : Nat, n = (j : Int) ∧ indexAddrA P s t x (.int true k j) = some r
  | 0, j, h => by simp [armsIdx, RT.val] at h
  | m + 1, j, h => by
    simp only [armsIdx, RT.val] at h
    cases hn : n == (j : Int) with
    | true => rw [hn] at h; exact ⟨j, by simpa using hn, h⟩
    | false => rw [hn] at h; exact armsIdx_val h
theorem idxT_val {P : Program} {s : St} {t : TypeId} {xa i : A} {r : Res} (h : (idxT P s t xa i).val = some r) : ∃ i', (∀ (x : Ctx) v, RA x i v → RA x i' v) ∧ indexAddrA P s t xa i' = some r := by
  unfold idxT at h
  split at h
  · obtain ⟨j, rfl, h'⟩ := armsIdx_val h
    refine ⟨_, fun x v hv => ?_, h'⟩
    cases hv; exact .int _ _ _ _ (by assumption)
  · exact ⟨_, fun _ _ h => h, h⟩
theorem idxT_free {P : Program} {x : Ctx} {m0 : Mem} {s : St} {a : Act} {w : World} {o : Oper} {t : TypeId} {y i : Operand} {xa ia : A} {r : Res} (hf : RF x s.slots a.tmps) (hr : MemR x s.mem w) (hm : MemOk x m0 w) (ho : o.op = .indexAddr t y i)
    (hp : opd1 s y = some xa) (hi : opd1 s i = some ia) (h : (idxT P s t xa ia).val = some r) (hc : r.chk ≠ some false) : Free1 P x m0 s a o w r := by
  obtain ⟨i', hi', h⟩ := idxT_val h
  obtain ⟨e1, e2, e3, v, h1, h2⟩ := indexAddrA_ok hr (opd1_ok hf hp) (hi' _ _ (opd1_ok hf hi)) h hc
  exact .of hm e1 e2 e3 (by simp [execOp, ho, h1]) h2
/-- One operation. -/
theorem stepRes_ok {E : Env} (hE : EnvOk E) {x : Ctx} {w : World} {s : St} {a : Act} {o : Oper} {r : Res} (hf : RF x s.slots a.tmps) (hd : a.defers = []) (hm : MemOk x s.mem w) (h : (stepRes E s o).val = some r) (hc : r.chk ≠ some false)
    {K : Act → World → Prop} {Q : Exit → Act → World → Prop} (hK : ∀ v w' x', RV x' r.v v → MemOk x' r.m w' → Ext x x' → Step x w w' → K (a.put o.dst v) w') : o.wp E.P a w K Q := by
  unfold stepRes at h
  split at h
  · rename_i c ho
    split at h
    · rename_i b hcb
      split at h
      · rename_i vs hvs
        simp only [RT.val] at h
        obtain ⟨v, w', x', h1, h2, h3, h4, h5⟩ := builtinA_ok (P := E.P) o.type (c.args.map fun | .const _ => true | _ => false) hm (opds_ok hf hvs) h hc
        refine wp_of_gives (v := v) (w' := w') (.inl (by rw [builtin_run ho hcb]; simpa using h1)) (hK v w' x' h2 h3 h4 h5)
      · simp [RT.val] at h
    · split at h
      · rename_i p caps vs hcal hvs
        split at h
        · rename_i vs' s' hfz
          split at h
          · rename_i chk v hp
            simp only [RT.val, Option.some.injEq] at h; subst h
            obtain ⟨f, args, he, hargs, hrun⟩ := calleeOf_ok hE hf ho hcal hvs
            obtain ⟨x1, m1, e1, r1, k1⟩ := freezeVs_ok hm hargs hfz
            have hcalls := he.2 _ _ _ hp hc x1 s'.mem w args m1 r1
            simp only [Oper.wp, hrun he.1 w, Oper.upon]
            refine hcalls.mono fun e w' hres => ?_
            obtain ⟨val, x', rfl, hv, hm', hx, hw⟩ := hres
            exact hK val w' x' hv hm' (e1.trans hx) (hw.step hm)
          · simp [RT.val] at h
        · simp [RT.val] at h
      · rename_i g caps vs hcal hvs
        split at h
        · rename_i chk v hg
          simp only [RT.val, Option.some.injEq] at h; subst h
          obtain ⟨f, args, he, hargs, hrun⟩ := calleeOf_ok hE hf ho hcal hvs
          have hcalls := he.2.2 _ _ _ _ hg hc x w args hm hargs
          simp only [Oper.wp, hrun he.1 w, Oper.upon]
          refine hcalls.mono fun e w' hres => ?_
          obtain ⟨val, x', rfl, hv, hm', hx, hw⟩ := hres
          exact hK val w' x' hv hm' hx (hw.step hm)
        · simp [RT.val] at h
      · rename_i g caps vs hcal hvs
        rw [RT.val_map] at h
        split at h
        · rename_i r0 hg
          simp only [Option.some.injEq] at h; subst h
          obtain ⟨f, args, he, hargs, hrun⟩ := calleeOf_ok hE hf ho hcal hvs
          have hcalls := he.2.2 _ _ _ hg hc x w args hm hargs
          simp only [Oper.wp, hrun he.1 w, Oper.upon]
          refine hcalls.mono fun e w' hres => ?_
          obtain ⟨val, x', rfl, hv, hm', hx, ht⟩ := hres
          exact hK val w' x' hv hm' hx ht
        · simp at h
      · simp [RT.val] at h
  · rename_i t y i ho
    split at h
    · rename_i xa ia hp hi
      obtain ⟨v, w', x', h1, h2, h3, h4, h5⟩ := (idxT_free hf hm.toR hm ho hp hi h hc).sound hm
      exact wp_of_gives h1 (hK v w' x' h2 h3 h4 h5)
    · simp [RT.val] at h
  · rename_i op hop
    simp only [RT.val] at h
    obtain ⟨v, w', x', h1, h2, h3, h4, h5⟩ := evOp_ok ⟨hf, hm, hd⟩ rfl h hc
    exact wp_of_gives h1 (hK v w' x' h2 h3 h4 h5)

/-- An operation that leaves memory alone; m0: whatever memory is. -/
theorem freeRes_ok {E : Env} (hE : EnvOk E) {x : Ctx} {m0 : Mem} {w : World} {s : St} {a : Act} {o : Oper} {chk : Option Bool} {v : V} {rd : Bool} (hf : RF x s.slots a.tmps) (hr : MemR x s.mem w) (hm : MemOk x m0 w) (hrd : rd = true → s.mem = m0) (h : freeRes E rd s o = some (chk, v)) (hc : chk ≠ some false)
    {K : Act → World → Prop} {Q : Exit → Act → World → Prop} (hK : ∀ u w' x', RV x' v u → MemOk x' m0 w' → Ext x x' → SameC w w' → K (a.put o.dst u) w') : o.wp E.P a w K Q := by
  unfold freeRes at h
  split at h
  · simp at h
  rename_i hfree
  simp only [Bool.and_eq_true, Bool.not_eq_true', Bool.or_eq_true] at hfree
  obtain ⟨⟨hchg, hfrz⟩, hread⟩ := hfree
  split at h
  case h_2 => simp at h
  rename_i r hres
  simp only [Option.some.injEq, Prod.mk.injEq] at h
  obtain ⟨rfl, rfl⟩ := h
  unfold stepRes at hres
  split at hres
  · rename_i c ho
    rw [ho] at hchg hfrz hread
    split at hres
    · rename_i b hcb
      have hb : b ≠ .append := by
        intro e; subst e
        simp [chgOp, hcb] at hchg
      split at hres
      · rename_i vs hvs
        simp only [RT.leaf.injEq] at hres
        obtain ⟨v, h1, h2⟩ := builtinA_free (P := E.P) o.type (c.args.map fun | .const _ => true | _ => false) hr (opds_ok hf hvs) hb hres
        exact wp_of_gives (v := v) (w' := w) (.inl (by rw [builtin_run ho hcb]; simpa using h1 w)) (hK v w x h2 hm (Ext.refl x) (SameC.refl w))
      · simp at hres
    · rename_i hnb
      split at hres
      · rename_i p caps vs hcal hvs
        have hfr : (vs ++ caps).all (frozenV s.mem) = true := by
          have hfrz' : (match c.callee with
            | .builtin _ => true
            | _ => match calleeOf E s c, opds s c.args.toList with
              | some (.read _, _), some _ => true
              | some (_, caps), some vs => (vs ++ caps).all (frozenV s.mem)
              | _, _ => false) = true := hfrz
          split at hfrz'
          · rename_i b hcb; exact absurd hcb (hnb b)
          · rw [hcal, hvs] at hfrz'; exact hfrz'
        split at hres
        · rename_i vs' s' hfz
          split at hres
          · rename_i chk v hp
            simp only [RT.leaf.injEq, Option.some.injEq] at hres; subst hres
            obtain ⟨rfl, q2⟩ := frozenVs_ok hr hfr hfz
            obtain ⟨f, args, he, hargs, hrun⟩ := calleeOf_ok hE hf ho hcal hvs
            have hcalls := he.2 _ _ _ hp hc x m0 w args hm (q2 _ hargs)
            simp only [Oper.wp, hrun he.1 w, Oper.upon]
            refine hcalls.mono fun e w' hres => ?_
            obtain ⟨val, x', rfl, hv, hm', hx, hw⟩ := hres
            exact hK val w' x' hv hm' hx hw
          · simp at hres
        · simp at hres
      · rename_i g caps vs hcal hvs
        split at hres
        · rename_i chk v hg
          simp only [RT.leaf.injEq, Option.some.injEq] at hres; subst hres
          have hrd' : rd = true := by
            rcases hread with h | h
            · exact h
            · exfalso
              have h' : (match c.callee with
                | .value (.func f) => match E.calls f with
                  | some (.read _) => true
                  | _ => false
                | _ => false) = false := h
              have hchg' : (match c.callee with
                | .builtin .append => true
                | .builtin _ => false
                | .value (.func f) => match E.calls f with
                  | some (.pure _) => false
                  | some (.read _) => false
                  | _ => true
                | _ => true) = false := hchg
              split at hchg'
              · simp at hchg'
              · rename_i b _ hcb; exact absurd hcb (hnb b)
              · rename_i f hcf
                unfold calleeOf at hcal
                rw [hcf] at hcal h'
                simp only [opd1, opd, Option.bind_some, V.one] at hcal h'
                cases he : E.calls f with
                | none => rw [he] at hcal; simp at hcal
                | some e =>
                  rw [he] at hcal h'
                  simp only [Option.some.injEq, Prod.mk.injEq] at hcal
                  rw [hcal.1] at h'
                  simp at h'
              · simp at hchg'
          have hmm := hrd hrd'
          obtain ⟨f, args, he, hargs, hrun⟩ := calleeOf_ok hE hf ho hcal hvs
          have hcalls := he.2.2 _ _ _ _ hg hc x w args (by rw [hmm]; exact hm) hargs
          simp only [Oper.wp, hrun he.1 w, Oper.upon]
          refine hcalls.mono fun e w' hres => ?_
          obtain ⟨val, x', rfl, hv, hm', hx, hw⟩ := hres
          exact hK val w' x' hv (by rw [← hmm]; exact hm') hx hw
        · simp at hres
      · rename_i g caps vs hcal hvs
        -- a call that may change memory is none of these
        exfalso
        have hchg' : (match c.callee with
          | .builtin .append => true
          | .builtin _ => false
          | .value (.func f) => match E.calls f with
            | some (.pure _) => false
            | some (.read _) => false
            | _ => true
          | _ => true) = false := hchg
        split at hchg'
        · simp at hchg'
        · rename_i b _ hcb; exact absurd hcb (hnb b)
        · rename_i f hcf
          unfold calleeOf at hcal
          rw [hcf] at hcal
          simp only [opd1, opd, Option.bind_some, V.one] at hcal
          split at hchg'
          · rename_i p' hp'
            rw [hp'] at hcal
            simp at hcal
          · rename_i p' hp'
            rw [hp'] at hcal
            simp at hcal
          · simp at hchg'
        · simp at hchg'
      · simp at hres
  · rename_i t y i ho
    split at hres
    · rename_i xa ia hp hi
      obtain ⟨_, _, _, v, w', x', h1, h2, h3, h4, h5⟩ := idxT_free hf hr hm ho hp hi (by rw [hres]; rfl) hc
      exact wp_of_gives (.inl h1) (hK v w' x' h2 h3 h4 h5)
    · simp at hres
  · rename_i op hop hop2
    simp only [RT.leaf.injEq] at hres
    have hk : freeK o.op = true := by
      revert hchg hop
      cases o.op <;> simp [chgOp, freeK]
    obtain ⟨_, _, _, v, w', x', h1, h2, h3, h4, h5⟩ := evOp_free hf hr hm rfl hk hfrz hres hc
    exact wp_of_gives (.inl h1) (hK v w' x' h2 h3 h4 h5)
end Go.S3
