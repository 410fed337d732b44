/-
  Soundness of the symbolic executor, part 9: every operation that is no call. Conditions: none (lemmas).
-/
import Derived.Test.YtiflfdlglncjlaaS3Sl3
set_option linter.unusedSimpArgs false
set_option linter.unusedVariables false
namespace Go.S3

/-- What is shown of an operation: it goes through, its value and the memory are as said. -/
def Sound1 (P : Program) (x : Ctx) (a : Act) (o : Oper) (w : World) (r : Res) : Prop :=
  ∃ v w' x', Gives P a o w v w' ∧ RV x' r.v v ∧ MemOk x' r.m w' ∧ Ext x x' ∧ Step x w w'

/-- The operation leaves memory as it is; m0: whatever memory is. -/
def Free1 (P : Program) (x : Ctx) (m0 : Mem) (s : St) (a : Act) (o : Oper) (w : World) (r : Res) : Prop :=
  r.m = s.mem ∧ r.bd = s.bd ∧ r.sd = s.sd ∧ ∃ v w' x', (execOp a.eval o).run P w = .ok (.value v) w' ∧ RV x' r.v v ∧ MemOk x' m0 w' ∧ Ext x x' ∧ SameC w w'
theorem Free1.sound {P : Program} {x : Ctx} {s : St} {a : Act} {o : Oper} {w : World} {r : Res} (hm : MemOk x s.mem w) (h : Free1 P x s.mem s a o w r) : Sound1 P x a o w r := by
  obtain ⟨h1, _, _, v, w', x', hr, hv, hm', he, hw⟩ := h
  exact ⟨v, w', x', .inl hr, hv, h1 ▸ hm', he, hw.step hm⟩
theorem Free1.of {P : Program} {x : Ctx} {m0 : Mem} {s : St} {a : Act} {o : Oper} {w : World} {r : Res} (hm : MemOk x m0 w) (h1 : r.m = s.mem) (h2 : r.bd = s.bd) (h3 : r.sd = s.sd) {v : Value}
    (hr : (execOp a.eval o).run P w = .ok (.value v) w) (hv : RV x r.v v) : Free1 P x m0 s a o w r :=
  ⟨h1, h2, h3, v, w, x, hr, hv, hm, Ext.refl x, SameC.refl w⟩
theorem newBox_sound {P : Program} {x : Ctx} {s : St} {a : Act} {w : World} {o : Oper} (hm : MemOk x s.mem w) {l : List A} {C : List Value} {T : TypeId} (hl : RL x l C)
    (h : (execOp a.eval o).run P w = .ok (.value (.pointer (some ⟨w.heap.size, 0, none⟩))) (w.alloc (.cells C.toArray T))) : Sound1 P x a o w (newBox s l) := by
  obtain ⟨h1, h2, h3⟩ := newBox_ok hm T hl
  exact ⟨_, _, _, .inl h, h3, h1, ext_box x _, h2⟩
/-- Operations that leave memory alone. -/
def freeK : Op → Bool
  | .alloc _ | .box .. | .store .. | .makeSlice .. | .call _ => false
  | _ => true
theorem opdsC_len (s : St) (a : Act) (l : List (Nat × Operand)) : (opdsC s l).length = (l.map fun p => (p.1, a.eval p.2)).length := by
  have := congrArg List.length (opdsC_fst s l)
  simpa using this
theorem capsOf_ok {x : Ctx} : ∀ {vs : List V} {l : List A} {args : List Value}, capsOf vs = some l → RVs x vs args → RL x l args
  | [], l, args, h, hv => by
    simp only [capsOf, Option.some.injEq] at h; subst h
    cases args with
    | nil => trivial
    | cons _ _ => exact hv.elim
  | .w (.one a) :: vs, l, v :: args, h, hv => by
    simp only [capsOf] at h
    split at h
    · rename_i r hr
      simp only [Option.some.injEq] at h; subst h
      exact ⟨hv.1, capsOf_ok hr hv.2⟩
    · simp at h
  | .w (.agg _) :: _, _, _, h, _ => by simp [capsOf] at h
  | .w .junk :: _, _, _, h, _ => by simp [capsOf] at h
  | .tup _ :: _, _, _, h, _ => by simp [capsOf] at h
  | .w (.one _) :: _, _, [], _, hv => hv.elim
theorem clo_of_RL {x : Ctx} {f : FuncId} {l : List A} {cs : List Value} (h : RL x l cs) : RA x (.clo f l) (.func (.func f) #[] cs.toArray) := by
  refine .clo x f l cs (fun j => (cs[j]?).getD undef) (by rw [len_eq, len_eq, h.length]) (fun j a ha => ?_) (fun j a ha => ?_)
  · obtain ⟨v, e, _⟩ := h.nth j a ha
    rw [nth_eq, e]; rfl
  · obtain ⟨v, e, hr⟩ := h.nth j a ha
    rw [e]; exact hr

theorem frozenC_ok {x : Ctx} {s : St} {w : World} (hm : MemR x s.mem w) : ∀ {l : List (Nat × Operand)} {ps : List (Nat × Option (List A))} {s' : St},
    (l.all fun p => match opd s p.2 with | some v => frozenV s.mem v | none => false) = true → freezeC s (opdsC s l) = some (ps, s') →
    s' = s ∧ (∀ vs, PsOk x (opdsC s l) vs → PsOk x ps vs) ∧ ps.map (·.1) = (opdsC s l).map (·.1)
  | [], ps, s', _, h => by
    simp only [opdsC, freezeC, Option.some.injEq, Prod.mk.injEq] at h
    obtain ⟨rfl, rfl⟩ := h
    exact ⟨rfl, fun vs hv => hv, rfl⟩
  | (i, y) :: l, ps, s', hf, h => by
    simp only [List.all_cons, Bool.and_eq_true] at hf
    simp only [opdsC] at h
    have hy := hf.1
    cases hv : opd s y with
    | none => rw [hv] at hy; simp at hy
    | some v =>
      rw [hv] at hy
      simp only at hy
      simp only [opdC, hv, Option.bind_some] at h
      cases hc : v.cells with
      | none => rw [hc] at h; simp [freezeC] at h
      | some c =>
        rw [hc] at h
        simp only [freezeC] at h
        split at h
        · rename_i c' s1 h1
          have hfc : c.all (frozenA s.mem) = true := by
            cases v with
            | w y' =>
              cases y' with
              | one b => simp only [V.cells, W.cells, Option.some.injEq] at hc; subst hc; simpa [frozenV] using hy
              | agg q => simp only [V.cells, W.cells, Option.some.injEq] at hc; subst hc; exact hy
              | junk => simp [V.cells, W.cells] at hc
            | tup _ => simp [V.cells] at hc
          obtain ⟨rfl, q1⟩ := frozenL_ok (x := x) hm hfc h1
          split at h
          · rename_i r' s2 h2
            simp only [Option.some.injEq, Prod.mk.injEq] at h
            obtain ⟨rfl, rfl⟩ := h
            obtain ⟨rfl, q2, q3⟩ := frozenC_ok hm hf.2 h2
            refine ⟨rfl, fun vs hvs => ?_, by simp only [opdsC, List.map_cons, q3]⟩
            cases vs with
            | nil => intro j d u _ e; simp [nth_nil] at e
            | cons v0 vs =>
              intro j d u e1 e2 k e3
              cases j with
              | zero =>
                simp only [nth, Option.some.injEq] at e1 e2; subst e1; subst e2
                simp only [Option.some.injEq] at e3; subst e3
                exact q1 _ (hvs 0 (i, some c) v0 (by simp [opdsC, nth, opdC, hv, hc]) rfl c rfl)
              | succ j => exact q2 vs (fun j d u e1 e2 => hvs (j + 1) d u (by simpa [opdsC, nth] using e1) (by simpa [nth] using e2)) j d u e1 e2 k e3
          · simp at h
        · simp at h

set_option maxHeartbeats 2000000 in
theorem evOp_free {E : Env} {x : Ctx} {m0 : Mem} {s : St} {a : Act} {w : World} {o : Oper} {op : Op} {r : Res} (hf : RF x s.slots a.tmps) (hr : MemR x s.mem w) (hm : MemOk x m0 w) (ho : o.op = op) (hst : freeK op = true)
    (hz : frzOp E s op = true) (h : evOp E s op = some r) (hc : r.chk ≠ some false) : Free1 E.P x m0 s a o w r := by
  have hcut : ∀ c, Cut (len s.mem.boxes) tip1 c x x := fun c => Cut.refl _ c x
  unfold evOp at h
  split at h
  · -- move
    rename_i y
    split at h
    · rename_i v hv
      simp only [valR, Option.some.injEq] at h; subst h
      exact .of hm rfl rfl rfl (by simp [execOp, ho]) (opd_ok hf hv)
    · simp at h
  · -- assign
    rename_i y
    split at h
    · rename_i v hv
      simp only [valR, Option.some.injEq] at h; subst h
      exact .of hm rfl rfl rfl (by simp [execOp, ho]) (opd_ok hf hv)
    · simp at h
  · -- pick
    rename_i c p q
    split at h
    · rename_i b hb
      have hcb := bool_of (opd1_ok hf hb)
      cases b with
      | true =>
        simp only at h
        split at h
        · rename_i v hv
          simp only [valR, Option.some.injEq] at h; subst h
          exact .of hm rfl rfl rfl (by simp [execOp, ho, hcb, asBool]) (opd_ok hf hv)
        · simp at h
      | false =>
        simp only at h
        split at h
        · rename_i v hv
          simp only [valR, Option.some.injEq] at h; subst h
          exact .of hm rfl rfl rfl (by simp [execOp, ho, hcb, asBool]) (opd_ok hf hv)
        · simp at h
    · rename_i b hb
      have hcb := bool_of (opd1_ok hf hb)
      split at h
      · rename_i y y' hy hy'
        split at h
        · rename_i z hz'
          simp only [valR, Option.some.injEq] at h; subst h
          refine .of (v := if b then a.eval p else a.eval q) hm rfl rfl rfl (by simp [execOp, ho, hcb, asBool]) ?_
          refine mW_ok (hcut b) hz' ?_
          cases b
          · exact opd_ok hf hy'
          · exact opd_ok hf hy
        · simp at h
      · simp at h
    · simp at h
  · simp [freeK] at hst
  · simp [freeK] at hst
  · -- build
    rename_i t parts
    split at h
    · rename_i z pl hz' hpl
      split at h
      · rename_i l hl
        simp only [valR, Option.some.injEq] at h; subst h
        obtain ⟨v, h1, h2⟩ := build_ok (P := E.P) hf hz' hpl hl
        exact .of hm rfl rfl rfl (by simp [execOp, ho, h1 w]) h2
      · simp at h
    · simp at h
  · -- load
    rename_i t p
    split at h
    · rename_i pa hp
      split at h
      · rename_i y hy
        simp only [valR, Option.some.injEq] at h; subst h
        obtain ⟨u, h1, h2⟩ := loadA_ok hr (opd1_ok hf hp) hy
        exact .of hm rfl rfl rfl (by simp [execOp, ho, h1 w (OldSame.refl w)]) h2
      · simp at h
    · simp at h
  · simp [freeK] at hst
  · -- nilCheck
    rename_i y
    split at h
    · rename_i b off hy
      simp only [pureR, Option.some.injEq] at h; subst h
      have hv := opd1_ok hf hy
      refine .of (v := a.eval y) hm rfl rfl rfl ?_ hv
      generalize hev : a.eval y = pv at *
      cases hv with
      | loc _ _ _ q hq => simp [execOp, ho, hev]
    · rename_i l hy
      simp only [pureR, Option.some.injEq] at h; subst h
      have hv := opd1_ok hf hy
      refine .of (v := a.eval y) hm rfl rfl rfl ?_ hv
      generalize hev : a.eval y = pv at *
      cases hv with
      | fp _ _ q o c hf' hr => simp [execOp, ho, hev]
    · rename_i hh ver i off hy
      split at h
      · rename_i g hg
        simp only [pureR, Option.some.injEq] at h; subst h
        have hv := opd1_ok hf hy
        refine .of (v := a.eval y) hm rfl rfl rfl ?_ hv
        obtain ⟨_, _, _, _, _, _, _, _, e⟩ := sp_of hr hv hg
        simp [execOp, ho, e]
      · simp at h
    · simp at h
  · -- binOp
    rename_i op t y y' yt
    split at h
    · rename_i p q hp hq
      split at h
      · rename_i c z hz'
        simp only [Option.some.injEq] at h; subst h
        obtain ⟨v, h1, h2⟩ := binA_ok y y' (opd_ok hf hp) (opd_ok hf hq) hz' hc
        refine .of (v := v) hm rfl rfl rfl ?_ h2
        have h3 := h1 w
        simp only [execOp, ho, Sem.run_bind, Sem.run_pure] at h3 ⊢
        rw [h3]; rfl
      · simp at h
    · rename_i p q hp hq
      obtain ⟨C, e1, e2⟩ := opd_ok hf hp
      obtain ⟨D, e3, e4⟩ := opd_ok hf hq
      split at h
      · split at h
        · rename_i e he
          simp only [pureR, Option.some.injEq] at h; subst h
          refine .of (v := .bool e) hm rfl rfl rfl ?_ (.bool _ _ _)
          obtain ⟨h1, h2⟩ := eqT_run (w := w) he e2 e4
          simp only [execOp, ho, e1, e3, Sem.run_bind, h2 .eql y y', Result.andThen_ok, binOp, h1, Sem.run_pure]
        · simp at h
      · split at h
        · rename_i e he
          simp only [pureR, Option.some.injEq] at h; subst h
          refine .of (v := .bool (!e)) hm rfl rfl rfl ?_ (.bool _ _ _)
          obtain ⟨h1, h2⟩ := eqT_run (w := w) he e2 e4
          simp only [execOp, ho, e1, e3, Sem.run_bind, h2 .neq y y', Result.andThen_ok, binOp, h1, Sem.run_pure]
        · simp at h
      · simp at h
    · simp at h
  · -- unOp
    rename_i op t y
    split at h
    · rename_i p hp
      rw [Option.bind_eq_some_iff] at h
      obtain ⟨z, hz', h⟩ := h
      simp only [pureR, Option.some.injEq] at h; subst h
      obtain ⟨v, h1, h2⟩ := unA_ok (P := E.P) (opd1_ok hf hp) hz'
      exact .of hm rfl rfl rfl (by simp [execOp, ho, h1 w]) h2
    · simp at h
  · -- convert
    rename_i src dst y
    split at h
    · rename_i p hp
      obtain ⟨e1, e2, e3, v, h1, h2⟩ := convertA_ok hr (opd1_ok hf hp) h
      exact .of hm e1 e2 e3 (by simp [execOp, ho, h1]) h2
    · simp at h
  · -- fieldAddr
    rename_i t y f
    split at h
    · rename_i p fd hp hfd
      split at h
      · rename_i n hn
        rw [Option.bind_eq_some_iff] at h
        obtain ⟨z, hz', h⟩ := h
        simp only [pureR, Option.some.injEq] at h; subst h
        obtain ⟨fs, hu, hfs⟩ := fieldOf_some hfd
        obtain ⟨q, off, e1, e2⟩ := moveP_ok hr (opd1_ok hf hp) hz'
        refine .of (v := .pointer (some ⟨q, off + fd.offset, none⟩)) hm rfl rfl rfl ?_ e2
        simp [execOp, ho, e1, Instr.fieldAt, run_underlying hu, hfs, Instr.sureAddr, fieldPlace, sizeT_run hn, add_none]
      · simp at h
    · simp at h
  · -- field
    rename_i t y f
    split at h
    · rename_i l fd hp hfd
      split at h
      · rename_i z hz'
        simp only [valR, Option.some.injEq] at h; subst h
        obtain ⟨fs, hu, hfs⟩ := fieldOf_some hfd
        obtain ⟨C, e1, e2⟩ := opd_ok hf hp
        obtain ⟨v, h1, h2⟩ := partT_ok (P := E.P) hz' e2
        exact .of hm rfl rfl rfl (by simp [execOp, ho, e1, Instr.field, run_underlying hu, hfs, asAgg, h1]) h2
      · simp at h
    · simp at h
  · -- index
    rename_i t y i
    split at h
    · rename_i l ia hp hi
      obtain ⟨e1, e1', e1'', v, e2, e3⟩ := indexA_ok (opd_ok hf hp) (opd1_ok hf hi) h hc
      exact .of hm e1 e1' e1'' (by simp [execOp, ho, e2]) e3
    · simp at h
  · -- extract
    rename_i y i
    split at h
    · rename_i l hp
      split at h
      · rename_i z hz'
        simp only [valR, Option.some.injEq] at h; subst h
        obtain ⟨C, e1, e2⟩ := opd_ok hf hp
        obtain ⟨v, h1, h2⟩ := RWs.nth e2 _ _ hz'
        exact .of hm rfl rfl rfl (by simp [execOp, ho, e1, Instr.extract, h1]) h2
      · simp at h
    · simp at h
  · -- indexAddr
    rename_i t y i
    split at h
    · rename_i xa ia hp hi
      obtain ⟨e1, e2, e3, v, h1, h2⟩ := indexAddrA_ok hr (opd1_ok hf hp) (opd1_ok hf hi) h hc
      exact .of hm e1 e2 e3 (by simp [execOp, ho, h1]) h2
    · simp at h
  · simp [freeK] at hst
  · -- slice
    rename_i t y low high max
    split at h
    · rename_i xa hp
      have hfr : frozenA s.mem xa = true := by
        simp only [frzOp, opd1_some hp, frozenV] at hz; exact hz
      unfold sliceA at h
      split at h
      · rename_i x' s' hfz
        obtain ⟨rfl, hv⟩ := frozenA_ok hr hfr hfz
        split at h
        · simp at h
        · rename_i hnt
          obtain ⟨e1, e2, e3, v, h1, h2⟩ := sliceB_ok hf hr (hv _ (opd1_ok hf hp)) (fun h v e => hnt h v e) h hc
          refine .of (v := v) hm e1 e2 e3 ?_ h2
          have := h1 w
          simp only [execOp, ho, Sem.run_bind, Option.map_map] at this ⊢
          rw [this]; rfl
      · simp at h
    · simp at h
  · -- buildSlice
    rename_i t n parts
    unfold buildSliceA at h
    split at h
    · rename_i ps s' hfz
      have hps : PsOk x (opdsC s parts.toList) (parts.toList.map fun p => (p.1, a.eval p.2)) := fun i c v h1 h2 => opdsC_nth hf parts.toList i c v h1 h2
      obtain ⟨rfl, hps', hfst⟩ := frozenC_ok hr hz hfz
      obtain ⟨e1, e2, e3, v, w', x', h1, h2, h3, h4, h5⟩ := buildSliceB_ok (P := E.P) (s := s') hm (t := t) (n := n) (vs := parts.toList.map fun p => (p.1, a.eval p.2)) (by rw [hfst, opdsC_fst, List.map_map]; rfl) (hps' _ hps) h
      refine ⟨e1, e2, e3, v, w', x', ?_, h2, h3, h4, h5⟩
      have e : (parts.map fun p => (p.1, a.eval p.2)) = (parts.toList.map fun p => (p.1, a.eval p.2)).toArray := by apply Array.ext'; rw [Array.toList_map]
      simp only [execOp, ho, e, Sem.run_bind, h1]; rfl
    · simp at h
  · -- makeFunc
    rename_i f first caps
    split at h
    · rename_i vs hfirst hvs
      split at h
      · rename_i l hl
        simp only [pureR, Option.some.injEq] at h; subst h
        have hcl := capsOf_ok hl (opds_ok hf hvs)
        refine .of hm rfl rfl rfl ?_ (clo_of_RL (f := f) hcl)
        have e1 : first = #[] := by apply Array.ext'; simpa using hfirst
        have e2 : caps.map a.eval = (caps.toList.map a.eval).toArray := by apply Array.ext'; rw [Array.toList_map]
        simp [execOp, ho, Instr.makeFunc, e1, e2]
      · simp at h
    · simp at h
  · simp at h

theorem evOp_ok {E : Env} {x : Ctx} {s : St} {a : Act} {w : World} {o : Oper} {op : Op} {r : Res} (hR : Rel x s a w) (ho : o.op = op) (h : evOp E s op = some r) (hc : r.chk ≠ some false) :
    Sound1 E.P x a o w r := by
  have hf := hR.f
  have hm := hR.m
  by_cases hst : freeK op = true ∧ frzOp E s op = true
  · exact (evOp_free hf hm.toR hm ho hst.1 hst.2 h hc).sound hm
  cases op
  case slice t y low high max =>
    simp only [evOp] at h
    split at h
    · rename_i xa hp
      unfold sliceA at h
      split at h
      · rename_i x' s' hfz
        obtain ⟨x1, m1, e1, r1, k1⟩ := freezeA_ok hm (opd1_ok hf hp) hfz
        split at h
        · simp at h
        · rename_i hnt
          obtain ⟨q1, q2, q3, v, h1, h2⟩ := sliceB_ok (a := a) (by rw [k1.sl]; exact hf.mono e1) m1.toR r1 (fun h v e => hnt h v e) h hc
          refine ⟨v, w, x1, .inl ?_, h2, by rw [q1]; exact m1, e1, Step.refl x w⟩
          have := h1 w
          simp only [execOp, ho, Sem.run_bind, Option.map_map] at this ⊢
          rw [this]; rfl
      · simp at h
    · simp at h
  case buildSlice t n parts =>
    simp only [evOp] at h
    unfold buildSliceA at h
    split at h
    · rename_i ps s' hfz
      have hps : PsOk x (opdsC s parts.toList) (parts.toList.map fun p => (p.1, a.eval p.2)) := fun i c v h1 h2 => opdsC_nth hf parts.toList i c v h1 h2
      obtain ⟨x1, m1, e1, r1, hfst, k1⟩ := freezeC_ok (opdsC_len s a parts.toList) hm hps hfz
      obtain ⟨q1, q2, q3, v, w', x', h1, h2, h3, h4, h5⟩ := buildSliceB_ok (P := E.P) (s := s') m1 (t := t) (n := n) (vs := parts.toList.map fun p => (p.1, a.eval p.2)) (by rw [hfst, opdsC_fst, List.map_map]; rfl) r1 h
      refine ⟨v, w', x', .inl ?_, h2, by rw [q1]; exact h3, e1.trans h4, ?_⟩
      · have e : (parts.map fun p => (p.1, a.eval p.2)) = (parts.toList.map fun p => (p.1, a.eval p.2)).toArray := by apply Array.ext'; rw [Array.toList_map]
        simp only [execOp, ho, e, Sem.run_bind, h1]; rfl
      · exact h5.step hm
    · simp at h
  case makeSlice t l c =>
    simp only [evOp] at h
    split at h
    · rename_i la ca hl hcc
      obtain ⟨_, _, v, w', x', h1, h2, h3, h4, h5⟩ := makeSliceA_ok hm (opd1_ok hf hl) (opd1_ok hf hcc) h hc
      exact ⟨v, w', x', .inl (by simp [execOp, ho, h1]), h2, h3, h4, h5⟩
    · simp at h
  all_goals (try (simp only [freeK, frzOp, and_self, not_true_eq_false] at hst; done))
  all_goals (simp only [evOp] at h)
  all_goals (try (cases h; done))
  case alloc t =>
    rw [Option.map_eq_some_iff] at h
    obtain ⟨z, hz, rfl⟩ := h
    obtain ⟨zv, h1, h2⟩ := zeroT_run (P := E.P) (x := x) hz
    refine newBox_sound hm (T := t) h2 ?_
    simp [execOp, ho, Instr.alloc, h1, newVar, newRow]

  case box t y =>
    rw [Option.map_eq_some_iff] at h
    obtain ⟨l, hl, rfl⟩ := h
    refine newBox_sound hm (T := t) (opdC_ok hf hl) ?_
    simp [execOp, ho, Instr.box, newVar, newRow]

  case store t p y =>
    split at h
    · rename_i pa l hp hl
      unfold storeA at h
      split at h
      · simp at h
      · rename_i n hn
        split at h
        · simp at h
        · rename_i hbeq
          simp only [Nat.beq_eq] at hbeq
          split at h
          · rename_i b off
            split at h
            · simp at h
            · rename_i c hcb
              split at h
              · simp at h
              · rename_i c' hput
                simp only [Option.some.injEq] at h; subst h
                have hpv := opd1_ok hf hp
                have hlv := opdC_ok hf hl
                have hll := hlv.length
                rw [len_eq] at hbeq
                generalize hev : a.eval p = pv at *
                cases hpv with
                | loc _ _ _ q hq =>
                  by_cases hne : l = []
                  · subst hne
                    have hc' : c' = c := by simpa [putN] using hput.symm
                    subst hc'
                    have hcs : (a.eval y).cells = #[] := by
                      apply Array.ext'; cases hh : (a.eval y).cells.toList with
                      | nil => rfl
                      | cons _ _ => rw [hh] at hll; simp at hll
                    have hn0 : n = 0 := by simpa using hbeq
                    subst hn0
                    refine ⟨undef, w, x, .inr ⟨?_, rfl⟩, trivial, ?_, Ext.refl x, Step.refl x w⟩
                    · simp [execOp, ho, hev, Instr.storeAt, Instr.sureAddr, storeVar, hcs, sizeT_run hn, storeCells]
                    · have : setN s.mem.boxes b c' = s.mem.boxes := by
                        rw [setN_eq]; rw [nth_eq] at hcb
                        obtain ⟨h1, h2⟩ := List.getElem?_eq_some_iff.1 hcb
                        rw [← h2]; exact List.set_getElem_self h1
                      simp only [this]; exact hm
                  · obtain ⟨C, T, h1, h2, h3, h4⟩ := setBox_ok hm hcb hq hput hlv hne
                    refine ⟨undef, _, x, .inr ⟨?_, rfl⟩, trivial, h3, Ext.refl x, h4⟩
                    have hst := run_storeCells_at E.P q off T (a.eval y).cells.toList 0 C.toArray w h1 (by simpa using h2) (fun v hv => oneCell_of_atomic (hlv.atomic v hv))
                    have hsz : (a.eval y).cells.size = n := by rw [hbeq, hll]; simp
                    simp only [Nat.add_zero] at hst
                    simp [execOp, ho, hev, Instr.storeAt, Instr.sureAddr, storeVar, hsz, sizeT_run hn]
                    rw [hst]; simp [hsz]
          · -- into an element
            rename_i hh ver i off
            split at h
            · simp at h
            · rename_i g hg
              split at h
              · simp at h
              · rename_i hfz
                split at h
                · simp at h
                · rename_i row hput
                  split at h
                  · simp at h
                  · rename_i yv hdec
                    simp only [Option.some.injEq] at h; subst h
                    have hpv := opd1_ok hf hp
                    have hlv := opdC_ok hf hl
                    have hll := hlv.length
                    rw [len_eq] at hbeq
                    obtain ⟨si, q, cap, hs, hok, hb, h0, hi, hev⟩ := sp_of hm.toR hpv hg
                    obtain ⟨hg1, hg2⟩ := stgOf_some hg
                    have hput : putN (elN g.r g.l i.toNat) off l = some row := hput
                    simp only [Bool.or_eq_false_iff] at hfz
                    have hne : l ≠ [] := fun e => by rw [e] at hfz; simp [isNil] at hfz
                    have hfz := hfz.1
                    obtain ⟨C, h1, h2, h3, h4⟩ := setStg_ok hm hg1 hs hb hfz hi hput hdec hlv hne
                    refine ⟨undef, _, x, .inr ⟨?_, rfl⟩, trivial, h3, Ext.refl x, h4⟩
                    have hst := run_storeCells_at E.P q (i.toNat * g.r.wid + off) g.T (a.eval y).cells.toList 0 C.toArray w h1 (by simpa using h2) (fun v hv => oneCell_of_atomic (hlv.atomic v hv))
                    have hsz : (a.eval y).cells.size = n := by rw [hbeq, hll]; simp
                    simp only [Nat.add_zero] at hst
                    simp [execOp, ho, hev, Instr.storeAt, Instr.sureAddr, storeVar, hsz, sizeT_run hn]
                    rw [hst]; simp [hsz]
          · simp at h
    · simp at h
end Go.S3
