/-
  Contracts of functions that change one box of the caller's. Conditions: none (definitions and lemmas).
-/
import Derived.Test.YtiflfdlglncjlaaS3Api
set_option linter.unusedSimpArgs false
set_option linter.unusedVariables false
namespace Go.S3

theorem R.dec_len : ∀ (r : R) (l : List A) (y : r.den) (t : List A), r.dec l = some (y, t) → l.length = r.wid + t.length
  | .int k, l, y, t, h => by
    simp only [R.dec] at h
    unfold decI at h
    split at h <;> (try simp at h)
    split at h
    · simp only [Option.some.injEq, Prod.mk.injEq] at h
      obtain ⟨rfl, rfl⟩ := h
      simp [R.wid]; omega
    · simp at h
  | .bool, l, y, t, h => by
    simp only [R.dec] at h
    unfold decB at h
    split at h <;> (try simp at h)
    obtain ⟨rfl, rfl⟩ := h
    simp [R.wid]; omega
  | .str, l, y, t, h => by
    simp only [R.dec] at h
    unfold decS at h
    split at h <;> (try simp at h)
    obtain ⟨rfl, rfl⟩ := h
    simp [R.wid]; omega
  | .sl r, l, y, t, h => by
    simp only [R.dec] at h
    unfold decL at h
    split at h <;> (try simp at h)
    · split at h
      · simp only [Option.some.injEq, Prod.mk.injEq] at h
        obtain ⟨rfl, rfl⟩ := h
        simp [R.wid]; omega
      · simp at h
    · obtain ⟨rfl, rfl⟩ := h
      simp [R.wid]; omega
  | .pair a b, l, y, t, h => by
    simp only [R.dec] at h
    split at h
    · rename_i y1 t1 h1
      split at h
      · rename_i y2 t2 h2
        simp only [Option.some.injEq, Prod.mk.injEq] at h
        obtain ⟨rfl, rfl⟩ := h
        have := R.dec_len a _ _ _ h1
        have := R.dec_len b _ _ _ h2
        simp only [R.wid]; omega
      · simp at h
    · simp at h
  | .unit, l, y, t, h => by
    simp only [R.dec, Option.some.injEq, Prod.mk.injEq, true_and] at h
    subst h
    simp [R.wid]
theorem R.decW_len {r : R} {l : List A} {y : r.den} (h : r.decW l = some y) : l.length = r.wid := by
  unfold R.decW at h
  split at h
  · rename_i y' he
    simpa using R.dec_len r _ _ _ he
  · simp at h

/-- The context of a call that is handed the caller's box p. -/
def Ctx.own1 (w : World) (fz : Nat → Nat → Option Value) (p : Nat) : Ctx := { own := fun k => w.heap.size ≤ k ∨ k = p, M := [p], S := [], fz := fz }
theorem nth_one {α : Type} {a b : α} {n : Nat} (h : nth [a] n = some b) : n = 0 ∧ b = a := by
  cases n with
  | zero => simp only [nth, Option.some.injEq] at h; exact ⟨rfl, h.symm⟩
  | succ n => simp [nth] at h
theorem own1_ok {x : Ctx} {m : Mem} {w : World} (hm : MemOk x m w) {b p : Nat} {row : List A} (hb : nth m.boxes b = some row) (hp : nth x.M b = some p) {rb : R} {y : rb.den} (hy : rb.decW row = some y) :
    MemOk (Ctx.own1 w x.fz p) ⟨[rb.enc y], []⟩ w where
  fresh := fun _ h => .inl h
  fz := hm.fz
  ml := rfl
  box := fun b' l p' h h' => by
    obtain ⟨_, rfl⟩ := nth_one h
    obtain ⟨_, rfl⟩ := nth_one h'
    obtain ⟨C, T, e1, e2⟩ := hm.box b row p' hb hp
    exact ⟨C, T, e1, RL.plain (x := x) (x' := Ctx.own1 w x.fz p') (fun _ _ _ e => e) (R.enc_plain rb y) (R.decW_ok hy e2)⟩
  mown := fun b' p' h => by
    obtain ⟨_, rfl⟩ := nth_one h
    exact ⟨.inr rfl, (hm.mown b p' hp).2⟩
  inj := fun b b' p' h h' => by
    obtain ⟨rfl, _⟩ := nth_one h
    obtain ⟨rfl, _⟩ := nth_one h'
    rfl
  sl := rfl
  stg := fun i g s h => by simp [nth_nil] at h
  sown := fun i s p cap h => by simp [Ctx.own1, nth_nil] at h
  sinj := fun i i' s s' p cap cap' h => by simp [Ctx.own1, nth_nil] at h

/-- The caller's memory behind the call. -/
theorem back1_ok {x : Ctx} {m m1 : Mem} {w w' : World} {x2 : Ctx} (hm : MemOk x m w) {b p : Nat} {row row1 row' : List A} (hb : nth m.boxes b = some row) (hp : nth x.M b = some p) (hx : Ext (Ctx.own1 w x.fz p) x2) (hm1 : MemOk x2 m1 w')
    (hs : Step (Ctx.own1 w x.fz p) w w') {C : List Value} {T : TypeId} (hc : w'.heap[p]? = some (.cells C.toArray T (0, 0))) (hr : RL x2 row' C) (hpl : ∀ a ∈ row', plainA a = true) :
    MemOk { x with fz := x2.fz } { m with boxes := setN m.boxes b row' } w' ∧ Ext x { x with fz := x2.fz } ∧ Step x w w' := by
  have hp2 : nth x2.M 0 = some p := hx.M 0 p rfl
  have hpf : ∀ o, x2.fz p o = none := (hm1.mown 0 p hp2).2
  have hold : ∀ k, k < w.heap.size → k ≠ p → w'.heap[k]? = w.heap[k]? := fun k hk hne => hs.block k (by simp only [Ctx.own1]; omega)
  have hfz : ∀ k, k < w.heap.size → ∀ o, x2.fz k o = x.fz k o := by
    intro k hk o
    by_cases hkp : k = p
    · subst hkp; rw [hpf, (hm.mown b k hp).2]
    cases h : x2.fz k o with
    | some v =>
      rcases hx.new k o v h with e | e
      · exact e.symm
      · simp only [Ctx.own1] at e; omega
    | none =>
      cases h' : x.fz k o with
      | none => rfl
      | some v => rw [hx.fz k o v h'] at h; simp at h
  have hext : Ext x { x with fz := x2.fz } := by
    refine ⟨rfl, fun _ _ e => e, fun _ s e => ⟨s, e, SLe.refl s⟩, hx.fz, fun k o v e => ?_⟩
    rcases hx.new k o v e with e | e
    · exact .inl e
    · rcases e with e | e
      · exact .inr (hm.fresh k e)
      · exact .inr (e ▸ (hm.mown b p hp).1)
  have hle : FzLe x { x with fz := x2.fz } := fun k o v e => hx.fz k o v e
  refine ⟨?_, hext, hs.os, hs.tape, hs.output, hs.size, fun k hk => hs.block k fun e => ?_⟩
  · refine ⟨fun k h => hm.fresh k (Nat.le_trans hs.size h), hm1.fz, by simp only [setN_eq, List.length_set]; exact hm.ml, fun b' l p' h1 h2 => ?_, fun b' p' h1 => ⟨(hm.mown b' p' h1).1, fun o => ?_⟩, hm.inj, hm.sl, fun i g s h1 h2 => ?_, hm.sown, hm.sinj⟩
    · rcases nth_set h1 with ⟨rfl, rfl, _⟩ | ⟨hne, h1'⟩
      · have h2 : nth x.M b = some p' := h2
        rw [hp] at h2; simp only [Option.some.injEq] at h2; subst h2
        exact ⟨C, T, hc, RL.plain (x := x2) (x' := { x with fz := x2.fz }) (fun _ _ _ e => e) hpl hr⟩
      · have h2 : nth x.M b' = some p' := h2
        obtain ⟨C', T', e1, e2⟩ := hm.box b' l p' h1' h2
        have hpp : p' ≠ p := fun e => by subst e; exact hne (hm.inj b b' p' hp h2)
        exact ⟨C', T', by rw [hold p' (hm.M_lt h2) hpp]; exact e1, e2.mono hext⟩
    · show x2.fz p' o = none
      rw [hfz p' (hm.M_lt h1) o]; exact (hm.mown b' p' h1).2 o
    · have h2 : nth x.S i = some s := h2
      refine ((hm.stg i g s h1 h2).world fun q cap hq => hold q (hm.S_lt h2 hq) fun e => ?_).ctx hle fun q cap hq o => hfz q (hm.S_lt h2 hq) o
      subst e
      exact (hm.sown i s q cap h2 hq).2 b hp
  · rcases e with e | e
    · exact hk (hm.fresh k e)
    · exact hk (e ▸ (hm.mown b p hp).1)

/-- A function that is handed a pointer to a box first, whose row has the code rb. -/
def boxE (rb : R) (ts : List Sh) (rs : Rs) (pre : rb.den × HL ts → Option Bool) (F : rb.den × HL ts → rs.den × rb.den) : Entry :=
  .tree fun vs m => match vs with
    | .w (.one (.loc b 0)) :: rest => match nth m.boxes b with
      | some row => match rb.decW row with
        | some y => match decVs ts rest with
          | some a => .leaf (some { chk := pre (y, a), v := rs.enc (F (y, a)).1, m := { m with boxes := setN m.boxes b (rb.enc (F (y, a)).2) }, bd := addBD [] b 0 rb.wid, sd := [] })
          | none => .leaf none
        | none => .leaf none
      | none => .leaf none
    | _ => .leaf none
/-- The value, and the row of box 0. -/
def outBox (rb : R) (rs : Rs) (r : Res) : Option (rs.den × rb.den) := match rs.out r.m r.v with
  | some u => match nth r.m.boxes 0 with
    | some row => match rb.decW row with
      | some y => some (u, y)
      | none => none
    | none => none
  | none => none
def evBox (E : Env) (fn : Func) (rb : R) (ts : List Sh) (rs : Rs) (a : rb.den × HL ts) : RT (Option (rs.den × rb.den)) := (evFunc E fn (.w (.one (.loc 0 0)) :: encVs ts a.2) ⟨[rb.enc a.1], []⟩).map fun
  | some r => outBox rb rs r
  | none => none

theorem boxE_keep (rb : R) (ts : List Sh) (rs : Rs) (pre : rb.den × HL ts → Option Bool) (F : rb.den × HL ts → rs.den × rb.den) (vs : List V) (m : Mem) :
    match boxE rb ts rs pre F with
    | .tree g => (g vs m).All (fun r => ∀ q, r = some q → KeepC m q)
    | .pure _ => False
    | .read _ => False := by
  simp only [boxE]
  split
  · rename_i b rest
    split
    · rename_i row hrow
      split
      · rename_i y hy
        split
        · rename_i a ha
          intro q hq
          simp only [Option.some.injEq] at hq; subst hq
          refine ⟨by simp [setN_eq], fun b' l hl => ?_, Nat.le_refl _, fun i g hg => ⟨g, hg, Nat.le_refl _, fun _ => rfl⟩⟩
          by_cases hbb : b = b'
          · subst hbb
            rw [hrow] at hl; simp only [Option.some.injEq] at hl; subst hl
            refine ⟨_, nth_set_self hrow, by rw [R.enc_len, R.decW_len hy], fun j hj => ?_⟩
            rw [memP_addBD] at hj
            simp [memP] at hj
            rw [nth_eq, nth_eq, List.getElem?_eq_none (by rw [R.enc_len]; exact hj), List.getElem?_eq_none (by rw [R.decW_len hy]; exact hj)]
          · exact ⟨l, by rw [nth_set_ne hbb]; exact hl, rfl, fun _ _ => rfl⟩
        · intro q hq; simp at hq
      · intro q hq; simp at hq
    · intro q hq; simp at hq
  · intro q hq; simp at hq

theorem boxE_ok {E : Env} (hE : EnvOk E) {f : FuncId} {fn : Func} {c : Code} (hf : E.P.funcs[f]? = some fn) (hb : fn.body = some c) (hl : LoopsOk E c) (hcall : Callable E.P f)
    {rb : R} {ts : List Sh} {rs : Rs} {pre : rb.den × HL ts → Option Bool} {F : rb.den × HL ts → rs.den × rb.den} (h : ∀ a, rb.ok a.1 → okHL ts a.2 → pre a ≠ some false → (evBox E fn rb ts rs a).val = some (F a)) :
    EntryOk E.P f (boxE rb ts rs pre F) := by
  refine ⟨hcall, fun vs m => boxE_keep rb ts rs pre F vs m, fun vs m r hp hc x w args hm hv => ?_⟩
  simp only at hp
  split at hp
  · rename_i b rest
    split at hp
    · rename_i row hrow
      split at hp
      · rename_i y hy
        split at hp
        · rename_i a ha
          simp only [RT.val, Option.some.injEq] at hp
          subst hp
          match args, hv with
          | v :: args, hv =>
            obtain ⟨p, hp⟩ := hm.M_of hrow
            have hv1 : RA x (.loc b 0) v := hv.1
            have hve : v = .pointer (some ⟨p, 0, none⟩) := by
              cases hv1 with
              | loc _ _ _ q hq => rw [hp] at hq; simp only [Option.some.injEq] at hq; subst hq; rfl
            subst hve
            obtain ⟨hargs, hin⟩ := decVs_ok ha hv.2
            obtain ⟨C0, T0, e1, e2⟩ := hm.box b row p hrow hp
            have hyok : rb.ok y := R.ok_of rb y x C0 (R.decW_ok hy e2)
            have h1 := h (y, a) hyok hin hc
            unfold evBox at h1
            rw [RT.val_map] at h1
            split at h1
            · rename_i r hr
              have hargs' : RVs (Ctx.own1 w x.fz p) (.w (.one (.loc 0 0)) :: encVs ts a) (.pointer (some ⟨p, 0, none⟩) :: args) :=
                ⟨RA.loc _ _ _ _ rfl, RVs_mapW (encWs_ctx (x := x) (x' := Ctx.own1 w x.fz p) (fun _ _ _ e => e) ts a (RWs_of_mapW hargs))⟩
              have h2 := calls_of_ev hE hf hb hl (own1_ok hm hrow hp hy) hargs' hr
              refine h2.mono fun e w' hres => ?_
              obtain ⟨val, x1, rfl, hrv, hm1, hext, hst⟩ := hres
              unfold outBox at h1
              split at h1
              · rename_i u hu
                split at h1
                · rename_i row' hrow'
                  split at h1
                  · rename_i y' hy'
                    simp only [Option.some.injEq] at h1
                    obtain ⟨x2, m2, hm2, hext2, hrv2⟩ := Rs.out_ok hu hm1 hrv
                    obtain ⟨C, T, hc1, hc2⟩ := hm1.box 0 row' p hrow' (hext.M 0 p rfl)
                    obtain ⟨q1, q2, q3⟩ := back1_ok hm hrow hp (row1 := row) (hext.trans hext2) hm2 hst hc1 ((R.decW_ok hy' hc2).mono hext2) (R.enc_plain rb y')
                    rw [← h1]
                    exact ⟨val, { x with fz := x2.fz }, rfl, Rs.enc_ctx (x := x2) (x' := { x with fz := x2.fz }) (fun _ _ _ e => e) rs _ hrv2, q1, q2, q3⟩
                  · simp at h1
                · simp at h1
              · simp at h1
            · simp at h1
          | [], hv => exact hv.elim
        · simp [RT.val] at hp
      · simp [RT.val] at hp
    · simp [RT.val] at hp
  · simp [RT.val] at hp
end Go.S3
