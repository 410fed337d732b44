/-
  Soundness of the symbolic executor, part 9: regions. Conditions: none (lemmas).
-/
import Derived.Test.YtmhebjdoodiikaaSxFork
namespace Go.Sx

/-- Between two worlds nothing that was there has turned. -/
def SameC (w w' : World) : Prop := OldSame w w' ∧ w'.os = w.os ∧ w'.tape = w.tape ∧ w'.output = w.output
theorem SameC.refl (w : World) : SameC w w := ⟨OldSame.refl w, rfl, rfl, rfl⟩
theorem SameC.trans {a b c : World} (h : SameC a b) (k : SameC b c) : SameC a c := ⟨h.1.trans k.1, k.2.1.trans h.2.1, k.2.2.1.trans h.2.2.1, k.2.2.2.trans h.2.2.2⟩
theorem SameC.drew (w : World) : SameC w { w with drawn := w.drawn + 1 } := ⟨⟨Nat.le_refl _, fun _ _ => rfl⟩, rfl, rfl, rfl⟩

theorem SameC.step {x : Ctx} {m : Mem} {w w' : World} (h : SameC w w') (hm : MemOk x m w) : Step x w w' :=
  ⟨h.2.1, h.2.2.1, h.2.2.2, h.1.1, fun k hk => h.1.2 k (by
    rcases Nat.lt_or_ge k w.heap.size with h1 | h1
    · exact h1
    · exact absurd (hm.fresh k h1) hk)⟩
theorem RelH.same {x0 x : Ctx} {w0 w w' : World} {s : St} {a : Act} (h : RelH x0 w0 x s a w) (hw : SameC w w') : RelH x0 w0 x s a w' :=
  ⟨⟨h.r.f, h.r.m.old hw.1, h.r.d⟩, h.e, h.t.trans (hw.step h.r.m) h.e.own⟩

def Callable (P : Program) (f : FuncId) : Prop := ∀ (args : Array Value) (w : World), (callFunc f args).run P w = .ok (.enter f args) w

/-- What a contract of a call says. -/
def EntryOk (P : Program) (f : FuncId) : Entry → Prop
  | .pure p => Callable P f ∧ ∀ vs chk v, p vs = some (chk, v) → chk ≠ some false → ∀ x m w args, MemOk x m w → RVs x vs args →
      Calls P f args.toArray w (fun e w' => ∃ val, e = .returned val ∧ RV x v val ∧ SameC w w')
  | .mem g => Callable P f ∧ ∀ vs s chk v u s', g vs s.mem = some (chk, v, u) → chk ≠ some false → applyU s u = some s' → ∀ x w args, MemOk x s.mem w → RVs x vs args →
      Calls P f args.toArray w (fun e w' => ∃ val x', e = .returned val ∧ RV x' v val ∧ MemOk x' s'.mem w' ∧ Ext [] x x' ∧ Step x w w')
def EnvOk (E : Env) : Prop := ∀ f e, E.calls f = some e → EntryOk E.P f e

theorem Hold.stop {x0 x : Ctx} {w0 w : World} {s : St} {a : Act} {Q : Exit → Act → World → Prop} (hr : RelH x0 w0 x s a w) (h : Hold x0 w0 x Q ⟨.stop, s⟩) : False :=
  h x a w hr (ExtM.refl x)
theorem Hold.chk {x0 x : Ctx} {w0 w : World} {s : St} {a : Act} {Q : Exit → Act → World → Prop} {c : Option Bool} {t : RT Out} (hr : RelH x0 w0 x s a w) (h : Hold x0 w0 x Q (chkT c s t).val) :
    c ≠ some false ∧ Hold x0 w0 x Q t.val := by
  cases c with
  | none => exact ⟨by simp, h⟩
  | some b =>
    cases b with
    | true => exact ⟨by simp, h⟩
    | false => exact (Hold.stop hr h).elim

theorem put_size (a : Act) (d : Option Nat) (v : Value) : (a.put d v).defers = a.defers := by cases d <;> rfl
theorem RF.put {x : Ctx} {s : St} {a : Act} (h : RF x s.slots a.tmps) (d : Option Nat) {v : V} {u : Value} (hv : RV x v u) : RF x (Sx.put s d v).slots (a.put d u).tmps := by
  cases d with
  | none => exact h
  | some d => exact h.set d hv

theorem put_mem (s : St) (d : Option Nat) (v : V) : (Sx.put s d v).mem = s.mem := by cases d <;> rfl

theorem RelH.putRes {x0 x x' : Ctx} {w0 w w' : World} {s : St} {a : Act} {r : Res} {v : Value} (h : RelH x0 w0 x s a w) (d : Option Nat) (hv : RV x' r.v v) (hm : MemOk x' r.m w') (he : Ext [] x x') (ht : Step x w w') :
    RelH x0 w0 x' (Sx.putRes s d r) (a.put d v) w' :=
  ⟨⟨RF.put (s := { s with mem := r.m, bd := r.bd, sd := r.sd }) (h.r.f.mono he) d hv, by rw [Sx.putRes, put_mem]; exact hm, by rw [put_size]; exact h.r.d⟩, h.e.trans he, h.t.trans ht h.e.own⟩
theorem Ext.extM {ts : List Nat} {x x' : Ctx} (h : Ext ts x x') : ExtM x x' := h.M

theorem Hold.ext {x0 x x' : Ctx} {w0 : World} {Q : Exit → Act → World → Prop} {o : Out} (h : Hold x0 w0 x Q o) (e : ExtM x x') : Hold x0 w0 x' Q o :=
  fun y a w hr k => h y a w hr (e.trans k)

/-! ### calls -/
theorem foldMin_run {P : Program} {x : Ctx} : ∀ (vs : List V) (args : List Value) (l l' : Bool) (k k' : IntKind) (n n' : Int), RVs x vs args → inR k n → foldMin (l, k, n) vs = some (l', k', n') →
    inR k' n' ∧ ∀ w, (args.foldlM Builtin.min2 (.int k n)).run P w = .ok (.int k' n') w
  | [], [], l, l', k, k', n, n', _, hk, h => by
    simp only [foldMin, Option.some.injEq, Prod.mk.injEq] at h
    obtain ⟨_, rfl, rfl⟩ := h
    exact ⟨hk, fun w => rfl⟩
  | v :: vs, u :: args, l, l', k, k', n, n', hv, hk, h => by
    unfold foldMin at h
    split at h
    · simp at *
    · rename_i l1 k1 n1 r heq
      obtain ⟨rfl, rfl⟩ := heq
      split at h
      · rename_i hkk
        simp only [decide_eq_true_eq] at hkk
        subst hkk
        obtain ⟨e1, e2⟩ := int_of (show RA x (.int l1 k1 n1) u from hv.1)
        subst e1
        obtain ⟨h1, h2⟩ := foldMin_run vs args _ _ _ _ _ _ hv.2 (by simp only; split <;> assumption) h
        refine ⟨h1, fun w => ?_⟩
        simp only [List.foldlM_cons, Sem.run_bind, Builtin.min2, Sem.run_pure, Result.andThen_ok]
        exact h2 w
      · simp at h
    · simp at h
  | [], _ :: _, _, _, _, _, _, _, h, _, _ => h.elim
  | _ :: _, [], _, _, _, _, _, _, h, _, _ => h.elim
theorem foldMax_run {P : Program} {x : Ctx} : ∀ (vs : List V) (args : List Value) (l l' : Bool) (k k' : IntKind) (n n' : Int), RVs x vs args → inR k n → foldMax (l, k, n) vs = some (l', k', n') →
    inR k' n' ∧ ∀ w, (args.foldlM Builtin.max2 (.int k n)).run P w = .ok (.int k' n') w
  | [], [], l, l', k, k', n, n', _, hk, h => by
    simp only [foldMax, Option.some.injEq, Prod.mk.injEq] at h
    obtain ⟨_, rfl, rfl⟩ := h
    exact ⟨hk, fun w => rfl⟩
  | v :: vs, u :: args, l, l', k, k', n, n', hv, hk, h => by
    unfold foldMax at h
    split at h
    · simp at *
    · rename_i l1 k1 n1 r heq
      obtain ⟨rfl, rfl⟩ := heq
      split at h
      · rename_i hkk
        simp only [decide_eq_true_eq] at hkk
        subst hkk
        obtain ⟨e1, e2⟩ := int_of (show RA x (.int l1 k1 n1) u from hv.1)
        subst e1
        obtain ⟨h1, h2⟩ := foldMax_run vs args _ _ _ _ _ _ hv.2 (by simp only; split <;> assumption) h
        refine ⟨h1, fun w => ?_⟩
        simp only [List.foldlM_cons, Sem.run_bind, Builtin.max2, Sem.run_pure, Result.andThen_ok]
        exact h2 w
      · simp at h
    · simp at h
  | [], _ :: _, _, _, _, _, _, _, h, _, _ => h.elim
  | _ :: _, [], _, _, _, _, _, _, h, _, _ => h.elim
theorem builtinA_ok {P : Program} {x : Ctx} {s : St} {b : Builtin} {vs : List V} {args : List Value} {r : Res} (ts : Array TypeId) (ty : TypeId) (cs : Array Bool) (hv : RVs x vs args) (h : builtinA s b vs = some r) :
    ∃ v, (∀ w, (builtin b ts ty cs args.toArray).run P w = .ok (.value v) w) ∧ RV x r.v v := by
  unfold builtinA at h
  split at h
  · rename_i l k n vs'
    split at h
    · rename_i l' k' n' hf
      simp only [pureR, Option.some.injEq] at h; subst h
      cases args with
      | nil => exact hv.elim
      | cons u args =>
        obtain ⟨e1, e2⟩ := int_of (show RA x (.int l k n) u from hv.1)
        subst e1
        obtain ⟨h1, h2⟩ := foldMin_run (P := P) vs' args _ _ _ _ _ _ hv.2 e2 hf
        exact ⟨_, fun w => by simp [builtin, Builtin.min_, h2 w], .int _ _ _ _ h1⟩
    · simp at h
  · rename_i l k n vs'
    split at h
    · rename_i l' k' n' hf
      simp only [pureR, Option.some.injEq] at h; subst h
      cases args with
      | nil => exact hv.elim
      | cons u args =>
        obtain ⟨e1, e2⟩ := int_of (show RA x (.int l k n) u from hv.1)
        subst e1
        obtain ⟨h1, h2⟩ := foldMax_run (P := P) vs' args _ _ _ _ _ _ hv.2 e2 hf
        exact ⟨_, fun w => by simp [builtin, Builtin.max_, h2 w], .int _ _ _ _ h1⟩
    · simp at h
  · simp at h

theorem RVs.append {x : Ctx} : ∀ {l l' : List V} {vs vs' : List Value}, RVs x l vs → RVs x l' vs' → RVs x (l ++ l') (vs ++ vs')
  | [], _, [], _, _, h' => by simpa using h'
  | _ :: _, _, _ :: _, _, h, h' => ⟨h.1, RVs.append h.2 h'⟩
  | [], _, _ :: _, _, h, _ => h.elim
  | _ :: _, _, [], _, h, _ => h.elim
theorem RVs_of_caps {x : Ctx} : ∀ (caps : List A) (cs : List Value) (c : Nat → Value), len cs = len caps → (∀ j a, nth caps j = some a → nth cs j = some (c j)) → (∀ j a, nth caps j = some a → RA x a (c j)) →
    RVs x (caps.map fun a => .w (.one a)) cs
  | [], [], _, _, _, _ => trivial
  | a :: caps, v :: cs, c, hl, hc, hr => by
    refine ⟨?_, RVs_of_caps caps cs (fun j => c (j + 1)) (by simpa [len] using hl) (fun j a h => hc (j + 1) a h) (fun j a h => hr (j + 1) a h)⟩
    have h1 := hc 0 a rfl
    have h2 := hr 0 a rfl
    simp only [nth, Option.some.injEq] at h1
    subst h1; exact h2
  | [], _ :: _, _, h, _, _ => by simp [len] at h
  | _ :: _, [], _, h, _, _ => by simp [len] at h

theorem calleeOf_ok {E : Env} (hE : EnvOk E) {x : Ctx} {s : St} {a : Act} (hf : RF x s.slots a.tmps) {o : Oper} {c : Call} (ho : o.op = .call c) {e : Entry} {caps : List V} (h : calleeOf E s c = some (e, caps)) {vs : List V}
    (hvs : opds s c.args.toList = some vs) :
    ∃ f args, EntryOk E.P f e ∧ RVs x (vs ++ caps) args ∧ (Callable E.P f → ∀ w, (execOp a.eval o).run E.P w = .ok (.enter f args.toArray) w) := by
  unfold calleeOf at h
  split at h
  · rename_i fo hc
    split at h
    · rename_i f cs hcs
      split at h
      · rename_i e' he
        simp only [Option.some.injEq, Prod.mk.injEq] at h
        obtain ⟨rfl, rfl⟩ := h
        have hv := opd1_ok hf hcs
        generalize hev : a.eval fo = fv at *
        cases hv with
        | clo _ _ _ C cc h1 h2 h3 =>
          refine ⟨f, c.args.toList.map a.eval ++ C, hE f e' he, RVs.append (opds_ok hf hvs) (RVs_of_caps _ _ _ h1 h2 h3), fun hcall w => ?_⟩
          simp [execOp, ho, resolve, hc, hev, Deferred.ofValue, invoke]
          rw [hcall]
          congr 2
          apply Array.ext'; simp
      · simp at h
    · simp at h
  · simp at h

theorem exactA_one {x : Ctx} {a : A} {v v' : Value} (he : exactA a = true) (h : RA x a v) (h' : RA x a v') : v = v' := by
  cases a <;> simp [exactA] at he <;> (cases h; cases h'; rfl)
theorem exactL_one {x : Ctx} : ∀ {l : List A} {v v' : List Value}, l.all exactA = true → RL x l v → RL x l v' → v = v'
  | [], [], [], _, _, _ => rfl
  | _ :: _, _ :: _, _ :: _, he, h, h' => by
    simp only [List.all_cons, Bool.and_eq_true] at he
    rw [exactA_one he.1 h.1 h'.1, exactL_one he.2 h.2 h'.2]
  | [], _ :: _, _, _, h, _ => h.elim
  | [], [], _ :: _, _, _, h => h.elim
  | _ :: _, [], _, _, h, _ => h.elim
  | _ :: _, _ :: _, [], _, _, h => h.elim
theorem exactW_one {x : Ctx} {a : W} {v v' : Value} (he : exactW a = true) (h : RW x a v) (h' : RW x a v') : v = v' := by
  cases a with
  | one a => exact exactA_one he h h'
  | agg l => obtain ⟨C, rfl, h⟩ := h; obtain ⟨D, rfl, h'⟩ := h'; rw [exactL_one he h h']
  | junk => simp [exactW] at he
theorem exactWs_one {x : Ctx} : ∀ {l : List W} {v v' : List Value}, l.all exactW = true → RWs x l v → RWs x l v' → v = v'
  | [], [], [], _, _, _ => rfl
  | _ :: _, _ :: _, _ :: _, he, h, h' => by
    simp only [List.all_cons, Bool.and_eq_true] at he
    rw [exactW_one he.1 h.1 h'.1, exactWs_one he.2 h.2 h'.2]
  | [], _ :: _, _, _, h, _ => h.elim
  | [], [], _ :: _, _, _, h => h.elim
  | _ :: _, [], _, _, h, _ => h.elim
  | _ :: _, _ :: _, [], _, _, h => h.elim
theorem exactV_one {x : Ctx} {a : V} {v v' : Value} (he : exactV a = true) (h : RV x a v) (h' : RV x a v') : v = v' := by
  cases a with
  | w a => exact exactW_one he h h'
  | tup l => obtain ⟨C, rfl, h⟩ := h; obtain ⟨D, rfl, h'⟩ := h'; rw [exactWs_one he h h']

theorem wp_of_gives {P : Program} {a : Act} {o : Oper} {w w' : World} {v : Value} {next : Act → World → Prop} {Q : Exit → Act → World → Prop} (h : Gives P a o w v w') (hn : next (a.put o.dst v) w') : o.wp P a w next Q := by
  rcases h with h | ⟨h, rfl⟩
  · simp only [Oper.wp, h, Oper.upon]; exact hn
  · simp only [Oper.wp, h, Oper.upon]; exact hn

theorem builtin_run {P : Program} {a : Act} {o : Oper} {c : Call} {b : Builtin} (ho : o.op = .call c) (hc : c.callee = .builtin b) (w : World) :
    (execOp a.eval o).run P w = (builtin b c.argTypes o.type (c.args.map fun | .const _ => true | _ => false) (c.args.toList.map a.eval).toArray).run P w := by
  simp [execOp, ho, resolve, hc, invoke]
  congr 2
  apply Array.ext'; simp

/-- One operation, in the order of the text. -/
theorem stepT_ok {E : Env} (hE : EnvOk E) {x0 x : Ctx} {w0 w : World} {s : St} {a : Act} {o : Oper} {k : St → RT Out} {Q : Exit → Act → World → Prop} {next : Act → World → Prop}
    (hr : RelH x0 w0 x s a w) (h : Hold x0 w0 x Q (stepT E false s o k).val)
    (hn : ∀ x' s' a' w', RelH x0 w0 x' s' a' w' → ExtM x x' → Hold x0 w0 x' Q (k s').val → next a' w') : o.wp E.P a w next Q := by
  have hf := hr.r.f
  have hm := hr.r.m
  unfold stepT at h
  split at h
  · rename_i c ho
    split at h
    · rename_i b hcb
      split at h
      · rename_i vs hvs
        split at h
        · rename_i r hb
          obtain ⟨hc, h⟩ := Hold.chk hr h
          obtain ⟨k1, k2, k3⟩ := builtinA_keep hb
          obtain ⟨v, h1, h2⟩ := builtinA_ok (P := E.P) c.argTypes o.type (c.args.map fun | .const _ => true | _ => false) (opds_ok hf hvs) hb
          refine wp_of_gives (v := v) (w' := w) (.inl (by rw [builtin_run ho hcb]; exact h1 w)) ?_
          refine hn x _ _ _ (hr.putRes o.dst h2 (by rw [k1]; exact hm) (Ext.refl x) (Step.refl x w)) (ExtM.refl x) h
        · exact (Hold.stop hr h).elim
      · exact (Hold.stop hr h).elim
    · split at h
      · rename_i p caps vs hcal hvs
        split at h
        · rename_i chk v hp
          simp only [Bool.false_and] at h
          obtain ⟨hc, h⟩ := Hold.chk hr h
          obtain ⟨f, args, he, hargs, hrun⟩ := calleeOf_ok hE hf ho hcal hvs
          have hcalls := he.2 _ _ _ hp hc x s.mem w args hm hargs
          simp only [Oper.wp, hrun he.1 w, Oper.upon]
          refine hcalls.mono fun e w' hres => ?_
          obtain ⟨val, rfl, hv, hw⟩ := hres
          refine hn x _ _ _ ?_ (ExtM.refl x) h
          have hr' := hr.same hw
          exact ⟨⟨RF.put hr'.r.f o.dst hv, by rw [put_mem]; exact hr'.r.m, by rw [put_size]; exact hr'.r.d⟩, hr'.e, hr'.t⟩
        · exact (Hold.stop hr h).elim
      · rename_i g caps vs hcal hvs
        simp only at h
        split at h
        · rename_i chk v u hg
          split at h
          · rename_i s' hu
            obtain ⟨hc, h⟩ := Hold.chk hr h
            obtain ⟨f, args, he, hargs, hrun⟩ := calleeOf_ok hE hf ho hcal hvs
            have hcalls := he.2 _ s _ _ _ s' hg hc hu x w args hm hargs
            simp only [Oper.wp, hrun he.1 w, Oper.upon]
            refine hcalls.mono fun e w' hres => ?_
            obtain ⟨val, x', rfl, hv, hm', hx, ht⟩ := hres
            refine hn x' _ _ _ ?_ hx.extM (h.ext hx.extM)
            have hsl : s'.slots = s.slots := by
              unfold applyU at hu
              split at hu
              · simp only [Option.some.injEq] at hu; subst hu; rfl
              · simp at hu
            exact ⟨⟨RF.put (by rw [hsl]; exact hf.mono hx) o.dst hv, by rw [put_mem]; exact hm', by rw [put_size]; exact hr.r.d⟩, hr.e.trans hx, hr.t.trans ht hr.e.own⟩
          · exact (Hold.stop hr h).elim
        · exact (Hold.stop hr h).elim
      · exact (Hold.stop hr h).elim
  · rename_i op hop
    simp only [Bool.false_and] at h
    split at h
    · rename_i r hop'
      obtain ⟨hc, h⟩ := Hold.chk hr h
      obtain ⟨v, w', x', h1, h2, h3, h4, h5⟩ := evOp_ok hr.r rfl hop' hc
      exact wp_of_gives h1 (hn x' _ _ _ (hr.putRes o.dst h2 h3 h4 h5) h4.extM (h.ext h4.extM))
    · exact (Hold.stop hr h).elim

/-- One operation, whose order is open: it leaves all as it is. -/
theorem stepQ_ok {E : Env} (hE : EnvOk E) {x0 x : Ctx} {w0 w : World} {s : St} {a : Act} {o : Oper} {k : St → RT Out} {Q : Exit → Act → World → Prop} {next : Act → Prop}
    (hr : RelH x0 w0 x s a w) (h : Hold x0 w0 x Q (stepT E true s o k).val)
    (hn : ∀ s' a', RelH x0 w0 x s' a' w → Hold x0 w0 x Q (k s').val → next a') : o.quiet E.P a (SameC w) next := by
  have hf := hr.r.f
  have hm := hr.r.m
  unfold stepT at h
  split at h
  · rename_i c ho
    split at h
    · rename_i b hcb
      split at h
      · rename_i vs hvs
        split at h
        · rename_i r hb
          obtain ⟨hc, h⟩ := Hold.chk hr h
          obtain ⟨k1, k2, k3⟩ := builtinA_keep hb
          obtain ⟨v, h1, h2⟩ := builtinA_ok (P := E.P) c.argTypes o.type (c.args.map fun | .const _ => true | _ => false) (opds_ok hf hvs) hb
          refine ⟨v, fun w' hw' => ?_, hn _ _ (hr.putRes o.dst h2 (by rw [k1]; exact hm) (Ext.refl x) (Step.refl x w)) h⟩
          unfold Oper.quietAt
          rw [builtin_run ho hcb, h1 w']
          exact ⟨rfl, rfl⟩
        · exact (Hold.stop hr h).elim
      · exact (Hold.stop hr h).elim
    · split at h
      · rename_i p caps vs hcal hvs
        split at h
        · rename_i chk v hp
          split at h
          · exact (Hold.stop hr h).elim
          · rename_i hex
            have hex : exactV v = true := by simpa using hex
            obtain ⟨hc, h⟩ := Hold.chk hr h
            obtain ⟨f, args, he, hargs, hrun⟩ := calleeOf_ok hE hf ho hcal hvs
            obtain ⟨_, w1, _, ⟨val, rfl, hv, hw⟩, _⟩ := he.2 _ _ _ hp hc x s.mem w args hm hargs []
            refine ⟨val, fun w' hw' => ?_, hn _ _ ?_ h⟩
            · unfold Oper.quietAt
              rw [hrun he.1 w']
              refine ⟨rfl, (he.2 _ _ _ hp hc x s.mem w' args (hm.old hw'.1) hargs).mono fun e w2 hres => ?_⟩
              obtain ⟨val', rfl, hv', hw2⟩ := hres
              exact ⟨by rw [exactV_one hex hv' hv], hw'.trans hw2⟩
            · exact ⟨⟨RF.put hf o.dst hv, by rw [put_mem]; exact hm, by rw [put_size]; exact hr.r.d⟩, hr.e, hr.t⟩
        · exact (Hold.stop hr h).elim
      · exact (Hold.stop hr h).elim
      · exact (Hold.stop hr h).elim
  · rename_i op hop
    split at h
    · exact (Hold.stop hr h).elim
    · rename_i hst
      have hst : stillOp o.op = true := by simpa using hst
      split at h
      · rename_i r hop'
        obtain ⟨hc, h⟩ := Hold.chk hr h
        obtain ⟨k1, k2, k3, v, h1, h2⟩ := evOp_still hr.r rfl hst hop' hc
        refine ⟨v, fun w' hw' => ?_, hn _ _ (hr.putRes o.dst h2 (by rw [k1]; exact hm) (Ext.refl x) (Step.refl x w)) h⟩
        unfold Oper.quietAt
        rw [h1 w' hw'.1]
        exact ⟨rfl, rfl⟩
      · exact (Hold.stop hr h).elim
end Go.Sx
