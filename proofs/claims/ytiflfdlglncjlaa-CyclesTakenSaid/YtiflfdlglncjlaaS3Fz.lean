/-
  Soundness of the symbolic executor, part 6: slices that are frozen; parts of slices. Conditions: none (lemmas).
-/
import Derived.Test.YtiflfdlglncjlaaS3Eq
set_option linter.unusedSimpArgs false
set_option linter.unusedVariables false
namespace Go.S3
variable {P : Program}

/-- The tip of a slice that is frozen. -/
theorem frozen_tip {x : Ctx} {m : Mem} {w : World} (hm : MemR x m w) {h ver : Nat} {v : Value} (hv : RA x (.tip h ver) v) {g : Stg} (hg : stgOf m h ver = some g) (hf : g.ffz = true) : RA x (.lst g.r g.lit false false g.l) v := by
  obtain ⟨s, hs, hok, rfl⟩ := tip_of hm hv hg
  cases hb : s.blk with
  | none =>
    have hl : g.l = [] := List.eq_nil_of_length_eq_zero (by rw [← hok.n]; exact (hok.nil hb).1)
    rw [tipVal_none hb]
    exact .lst0 _ _ _ _ _ _ _ _ hl (fun e => by simp at e) (fun e => by simp at e)
  | some pc =>
    obtain ⟨p, cap⟩ := pc
    obtain ⟨C, c1, c2, c3, c4, c5, c6, c7, c8⟩ := hok.row p cap hb
    have hfc := hok.ffz hf
    rw [tipVal_blk hb, show Value.slice (some ⟨p, 0, none⟩) s.n cap = .slice (some ⟨p, 0, none⟩) g.l.length cap by rw [hok.n]]
    have key : ∀ i j d, i < g.l.length → nth (elN g.r g.l i) j = some d → ∃ u, (C.take (s.n * g.r.wid))[i * g.r.wid + j]? = some u ∧ RA x.bare d u := by
      intro i j d hi hd
      obtain ⟨u, e1, e2⟩ := c5 i j d (by rw [hok.n]; exact hi) hd
      exact ⟨u, by rw [List.getElem?_take, if_pos (by rw [hok.n]; exact elN_cell hi hd)]; exact e1, e2⟩
    refine lst_of_block (C := C.take (s.n * g.r.wid)) (by rw [← hok.n]; exact c3) (by rw [← hok.n]; omega) (fun e => by simp at e) (fun k u e => ?_) key
    rw [List.getElem?_take] at e
    split at e
    · rename_i hk
      rw [c7 k (by rw [hfc]; exact hk)]; exact e
    · simp at e

theorem frozenA_ok {x : Ctx} {s : St} {w : World} (hm : MemR x s.mem w) {a a' : A} {s' : St} (hf : frozenA s.mem a = true) (h : freezeA s a = some (a', s')) : s' = s ∧ ∀ v, RA x a v → RA x a' v := by
  cases a with
  | tip hh ver =>
    simp only [frozenA] at hf
    simp only [freezeA] at h
    split at hf
    · rename_i g hg
      rw [hg] at h
      simp only [hf, Option.some.injEq, Prod.mk.injEq] at h
      obtain ⟨rfl, rfl⟩ := h
      exact ⟨rfl, fun v hv => frozen_tip hm hv hg hf⟩
    · simp at hf
  | sp _ _ _ _ => simp [frozenA] at hf
  | _ => simp only [freezeA, Option.some.injEq, Prod.mk.injEq] at h; obtain ⟨rfl, rfl⟩ := h; exact ⟨rfl, fun v hv => hv⟩
/-- Where there are no slices of the call's own, what can be frozen is frozen. -/
theorem frozenA_bare {s : St} (hs : s.mem = emptyM) {a a' : A} {s' : St} (h : freezeA s a = some (a', s')) : frozenA s.mem a = true := by
  cases a with
  | tip hh ver => simp [freezeA, stgOf, hs, emptyM, nth_nil] at h
  | sp _ _ _ _ => simp [freezeA] at h
  | _ => rfl

/-- What freezing leaves alone. -/
structure SameSl (s s' : St) : Prop where
  sl : s'.slots = s.slots
  d : s'.dirty = s.dirty
  bd : s'.bd = s.bd
  bx : s'.mem.boxes = s.mem.boxes
theorem SameSl.refl (s : St) : SameSl s s := ⟨rfl, rfl, rfl, rfl⟩
theorem SameSl.trans {a b c : St} (h : SameSl a b) (k : SameSl b c) : SameSl a c := ⟨k.sl.trans h.sl, k.d.trans h.d, k.bd.trans h.bd, k.bx.trans h.bx⟩

theorem freezeA_ok {x : Ctx} {s : St} {w : World} (hm : MemOk x s.mem w) {a a' : A} {s' : St} {v : Value} (hv : RA x a v) (h : freezeA s a = some (a', s')) :
    ∃ x', MemOk x' s'.mem w ∧ Ext x x' ∧ RA x' a' v ∧ SameSl s s' := by
  cases a with
  | tip hh ver =>
    simp only [freezeA] at h
    split at h
    · rename_i g hg
      split at h
      · rename_i hf
        simp only [Option.some.injEq, Prod.mk.injEq] at h
        obtain ⟨rfl, rfl⟩ := h
        exact ⟨x, hm, Ext.refl x, frozen_tip hm.toR hv hg hf, SameSl.refl s⟩
      · simp only [Option.some.injEq, Prod.mk.injEq] at h
        obtain ⟨rfl, rfl⟩ := h
        obtain ⟨si, hs, hok, rfl⟩ := tip_of hm.toR hv hg
        obtain ⟨x', h1, h2, h3⟩ := hm.freeze (stgOf_some hg).1 hs
        exact ⟨x', h1, h2, h3 _, ⟨rfl, rfl, rfl, rfl⟩⟩
    · simp at h
  | sp _ _ _ _ => simp [freezeA] at h
  | _ => simp only [freezeA, Option.some.injEq, Prod.mk.injEq] at h; obtain ⟨rfl, rfl⟩ := h; exact ⟨x, hm, Ext.refl x, hv, SameSl.refl s⟩
theorem freezeL_ok {x : Ctx} {w : World} : ∀ {l l' : List A} {s s' : St} {vs : List Value}, MemOk x s.mem w → RL x l vs → freezeL s l = some (l', s') →
    ∃ x', MemOk x' s'.mem w ∧ Ext x x' ∧ RL x' l' vs ∧ SameSl s s'
  | [], l', s, s', vs, hm, hv, h => by
    simp only [freezeL, Option.some.injEq, Prod.mk.injEq] at h
    obtain ⟨rfl, rfl⟩ := h
    exact ⟨x, hm, Ext.refl x, hv, SameSl.refl s⟩
  | a :: l, l', s, s', v :: vs, hm, hv, h => by
    simp only [freezeL] at h
    split at h
    · rename_i b s1 h1
      split at h
      · rename_i r s2 h2
        simp only [Option.some.injEq, Prod.mk.injEq] at h
        obtain ⟨rfl, rfl⟩ := h
        obtain ⟨x1, m1, e1, r1, k1⟩ := freezeA_ok hm hv.1 h1
        obtain ⟨x2, m2, e2, r2, k2⟩ := freezeL_ok m1 (hv.2.mono e1) h2
        exact ⟨x2, m2, e1.trans e2, ⟨r1.mono e2, r2⟩, k1.trans k2⟩
      · simp at h
    · simp at h
  | _ :: _, _, _, _, [], _, hv, _ => hv.elim
theorem freezeW_ok {x : Ctx} {w : World} {y y' : W} {s s' : St} {v : Value} (hm : MemOk x s.mem w) (hv : RW x y v) (h : freezeW s y = some (y', s')) : ∃ x', MemOk x' s'.mem w ∧ Ext x x' ∧ RW x' y' v ∧ SameSl s s' := by
  cases y with
  | one a =>
    simp only [freezeW] at h
    split at h
    · rename_i b s1 h1
      simp only [Option.some.injEq, Prod.mk.injEq] at h
      obtain ⟨rfl, rfl⟩ := h
      exact freezeA_ok hm hv h1
    · simp at h
  | agg l =>
    simp only [freezeW] at h
    split at h
    · rename_i b s1 h1
      simp only [Option.some.injEq, Prod.mk.injEq] at h
      obtain ⟨rfl, rfl⟩ := h
      obtain ⟨C, rfl, hC⟩ := hv
      obtain ⟨x', m1, e1, r1, k1⟩ := freezeL_ok hm hC h1
      exact ⟨x', m1, e1, ⟨C, rfl, r1⟩, k1⟩
    · simp at h
  | junk =>
    simp only [freezeW, Option.some.injEq, Prod.mk.injEq] at h
    obtain ⟨rfl, rfl⟩ := h
    exact ⟨x, hm, Ext.refl x, hv, SameSl.refl s⟩
theorem freezeV_ok {x : Ctx} {w : World} {y y' : V} {s s' : St} {v : Value} (hm : MemOk x s.mem w) (hv : RV x y v) (h : freezeV s y = some (y', s')) : ∃ x', MemOk x' s'.mem w ∧ Ext x x' ∧ RV x' y' v ∧ SameSl s s' := by
  cases y with
  | w a =>
    simp only [freezeV] at h
    split at h
    · rename_i b s1 h1
      simp only [Option.some.injEq, Prod.mk.injEq] at h
      obtain ⟨rfl, rfl⟩ := h
      exact freezeW_ok hm hv h1
    · simp at h
  | tup l =>
    simp only [freezeV, Option.some.injEq, Prod.mk.injEq] at h
    obtain ⟨rfl, rfl⟩ := h
    exact ⟨x, hm, Ext.refl x, hv, SameSl.refl s⟩
theorem freezeVs_ok {x : Ctx} {w : World} : ∀ {l l' : List V} {s s' : St} {vs : List Value}, MemOk x s.mem w → RVs x l vs → freezeVs s l = some (l', s') →
    ∃ x', MemOk x' s'.mem w ∧ Ext x x' ∧ RVs x' l' vs ∧ SameSl s s'
  | [], l', s, s', vs, hm, hv, h => by
    simp only [freezeVs, Option.some.injEq, Prod.mk.injEq] at h
    obtain ⟨rfl, rfl⟩ := h
    exact ⟨x, hm, Ext.refl x, hv, SameSl.refl s⟩
  | a :: l, l', s, s', v :: vs, hm, hv, h => by
    simp only [freezeVs] at h
    split at h
    · rename_i b s1 h1
      split at h
      · rename_i r s2 h2
        simp only [Option.some.injEq, Prod.mk.injEq] at h
        obtain ⟨rfl, rfl⟩ := h
        obtain ⟨x1, m1, e1, r1, k1⟩ := freezeV_ok hm hv.1 h1
        obtain ⟨x2, m2, e2, r2, k2⟩ := freezeVs_ok m1 (hv.2.mono e1) h2
        exact ⟨x2, m2, e1.trans e2, ⟨r1.mono e2, r2⟩, k1.trans k2⟩
      · simp at h
    · simp at h
  | _ :: _, _, _, _, [], _, hv, _ => hv.elim

/-- The parts of a value that is built. -/
def PsOk (x : Ctx) (ps : List (Nat × Option (List A))) (vs : List (Nat × Value)) : Prop := ∀ i c v, nth ps i = some c → nth vs i = some v → ∀ k, c.2 = some k → RL x k v.2.cells.toList
theorem PsOk.mono {x x' : Ctx} (e : Ext x x') {ps : List (Nat × Option (List A))} {vs : List (Nat × Value)} (h : PsOk x ps vs) : PsOk x' ps vs := fun i c v h1 h2 k h3 => (h i c v h1 h2 k h3).mono e
theorem freezeC_ok {x : Ctx} {w : World} : ∀ {ps ps' : List (Nat × Option (List A))} {s s' : St} {vs : List (Nat × Value)}, ps.length = vs.length → MemOk x s.mem w → PsOk x ps vs → freezeC s ps = some (ps', s') →
    ∃ x', MemOk x' s'.mem w ∧ Ext x x' ∧ PsOk x' ps' vs ∧ ps'.map (·.1) = ps.map (·.1) ∧ SameSl s s'
  | [], ps', s, s', vs, _, hm, hv, h => by
    simp only [freezeC, Option.some.injEq, Prod.mk.injEq] at h
    obtain ⟨rfl, rfl⟩ := h
    exact ⟨x, hm, Ext.refl x, hv, rfl, SameSl.refl s⟩
  | (i, some l) :: r, ps', s, s', v :: vs, hl, hm, hv, h => by
    simp only [freezeC] at h
    split at h
    · rename_i b s1 h1
      split at h
      · rename_i r' s2 h2
        simp only [Option.some.injEq, Prod.mk.injEq] at h
        obtain ⟨rfl, rfl⟩ := h
        obtain ⟨x1, m1, e1, r1, k1⟩ := freezeL_ok hm (hv 0 _ _ rfl rfl l rfl) h1
        have hv' : PsOk x1 r vs := fun j c u g1 g2 k g3 => (hv (j + 1) c u g1 g2 k g3).mono e1
        obtain ⟨x2, m2, e2, r2, q2, k2⟩ := freezeC_ok (by simpa using hl) m1 hv' h2
        refine ⟨x2, m2, e1.trans e2, fun j c u g1 g2 k g3 => ?_, by simp [q2], k1.trans k2⟩
        cases j with
        | zero =>
          simp only [nth, Option.some.injEq] at g1 g2; subst g1; subst g2
          simp only [Option.some.injEq] at g3; subst g3
          exact r1.mono e2
        | succ j => exact r2 j c u g1 g2 k g3
      · simp at h
    · simp at h
  | (_, none) :: _, _, _, _, _, _, _, _, h => by simp [freezeC] at h
  | _ :: _, _, _, _, [], hl, _, _, _ => by simp at hl

/-- The same where all is frozen already. -/
theorem frozenL_ok {x : Ctx} {w : World} : ∀ {l l' : List A} {s s' : St}, MemR x s.mem w → l.all (frozenA s.mem) = true → freezeL s l = some (l', s') → s' = s ∧ ∀ vs, RL x l vs → RL x l' vs
  | [], l', s, s', _, _, h => by
    simp only [freezeL, Option.some.injEq, Prod.mk.injEq] at h
    obtain ⟨rfl, rfl⟩ := h
    exact ⟨rfl, fun vs hv => hv⟩
  | a :: l, l', s, s', hm, hf, h => by
    simp only [List.all_cons, Bool.and_eq_true] at hf
    simp only [freezeL] at h
    split at h
    · rename_i b s1 h1
      split at h
      · rename_i r s2 h2
        simp only [Option.some.injEq, Prod.mk.injEq] at h
        obtain ⟨rfl, rfl⟩ := h
        obtain ⟨rfl, q1⟩ := frozenA_ok hm hf.1 h1
        obtain ⟨rfl, q2⟩ := frozenL_ok hm hf.2 h2
        exact ⟨rfl, fun vs hv => match vs, hv with | _ :: _, hv => ⟨q1 _ hv.1, q2 _ hv.2⟩⟩
      · simp at h
    · simp at h
theorem frozenV_ok {x : Ctx} {w : World} {y y' : V} {s s' : St} (hm : MemR x s.mem w) (hf : frozenV s.mem y = true) (h : freezeV s y = some (y', s')) : s' = s ∧ ∀ v, RV x y v → RV x y' v := by
  cases y with
  | w a =>
    simp only [freezeV] at h
    split at h
    · rename_i b s1 h1
      simp only [Option.some.injEq, Prod.mk.injEq] at h
      obtain ⟨rfl, rfl⟩ := h
      cases a with
      | one a =>
        simp only [freezeW] at h1
        split at h1
        · rename_i c s2 h2
          simp only [Option.some.injEq, Prod.mk.injEq] at h1
          obtain ⟨rfl, rfl⟩ := h1
          exact frozenA_ok hm hf h2
        · simp at h1
      | agg l =>
        simp only [freezeW] at h1
        split at h1
        · rename_i c s2 h2
          simp only [Option.some.injEq, Prod.mk.injEq] at h1
          obtain ⟨rfl, rfl⟩ := h1
          obtain ⟨q1, q2⟩ := frozenL_ok hm hf h2
          exact ⟨q1, fun v hv => let ⟨C, e, hC⟩ := hv; ⟨C, e, q2 C hC⟩⟩
        · simp at h1
      | junk =>
        simp only [freezeW, Option.some.injEq, Prod.mk.injEq] at h1
        obtain ⟨rfl, rfl⟩ := h1
        exact ⟨rfl, fun v hv => hv⟩
    · simp at h
  | tup l =>
    simp only [freezeV, Option.some.injEq, Prod.mk.injEq] at h
    obtain ⟨rfl, rfl⟩ := h
    exact ⟨rfl, fun v hv => hv⟩
theorem frozenVs_ok {x : Ctx} {w : World} : ∀ {l l' : List V} {s s' : St}, MemR x s.mem w → l.all (frozenV s.mem) = true → freezeVs s l = some (l', s') → s' = s ∧ ∀ vs, RVs x l vs → RVs x l' vs
  | [], l', s, s', _, _, h => by
    simp only [freezeVs, Option.some.injEq, Prod.mk.injEq] at h
    obtain ⟨rfl, rfl⟩ := h
    exact ⟨rfl, fun vs hv => hv⟩
  | a :: l, l', s, s', hm, hf, h => by
    simp only [List.all_cons, Bool.and_eq_true] at hf
    simp only [freezeVs] at h
    split at h
    · rename_i b s1 h1
      split at h
      · rename_i r s2 h2
        simp only [Option.some.injEq, Prod.mk.injEq] at h
        obtain ⟨rfl, rfl⟩ := h
        obtain ⟨rfl, q1⟩ := frozenV_ok hm hf.1 h1
        obtain ⟨rfl, q2⟩ := frozenVs_ok hm hf.2 h2
        exact ⟨rfl, fun vs hv => match vs, hv with | _ :: _, hv => ⟨q1 _ hv.1, q2 _ hv.2⟩⟩
      · simp at h
    · simp at h
theorem frozenL_bare {s : St} (hs : s.mem = emptyM) : ∀ {l l' : List A} {s' : St}, freezeL s l = some (l', s') → l.all (frozenA s.mem) = true ∧ s' = s
  | [], l', s', h => by
    simp only [freezeL, Option.some.injEq, Prod.mk.injEq] at h
    exact ⟨rfl, h.2.symm⟩
  | a :: l, l', s', h => by
    simp only [freezeL] at h
    split at h
    · rename_i b s1 h1
      have hf := frozenA_bare hs h1
      have hs1 : s1 = s := by
        cases a with
        | tip hh ver => simp [freezeA, stgOf, hs, emptyM, nth_nil] at h1
        | sp _ _ _ _ => simp [freezeA] at h1
        | _ => simp only [freezeA, Option.some.injEq, Prod.mk.injEq] at h1; exact h1.2.symm
      subst hs1
      split at h
      · rename_i r s2 h2
        simp only [Option.some.injEq, Prod.mk.injEq] at h
        obtain ⟨q1, q2⟩ := frozenL_bare hs h2
        exact ⟨by simp [hf, q1], h.2.symm.trans q2⟩
      · simp at h
    · simp at h
theorem frozenVs_bare {s : St} (hs : s.mem = emptyM) : ∀ {l l' : List V} {s' : St}, freezeVs s l = some (l', s') → l.all (frozenV s.mem) = true
  | [], l', s', h => rfl
  | a :: l, l', s', h => by
    simp only [freezeVs] at h
    split at h
    · rename_i b s1 h1
      have hf : frozenV s.mem a = true ∧ s1 = s := by
        cases a with
        | w a =>
          simp only [freezeV] at h1
          split at h1
          · rename_i c s2 h2
            simp only [Option.some.injEq, Prod.mk.injEq] at h1
            obtain ⟨_, rfl⟩ := h1
            cases a with
            | one a =>
              simp only [freezeW] at h2
              split at h2
              · rename_i d s3 h3
                simp only [Option.some.injEq, Prod.mk.injEq] at h2
                obtain ⟨_, rfl⟩ := h2
                refine ⟨frozenA_bare hs h3, ?_⟩
                cases a with
                | tip hh ver => simp [freezeA, stgOf, hs, emptyM, nth_nil] at h3
                | sp _ _ _ _ => simp [freezeA] at h3
                | _ => simp only [freezeA, Option.some.injEq, Prod.mk.injEq] at h3; exact h3.2.symm
              · simp at h2
            | agg l =>
              simp only [freezeW] at h2
              split at h2
              · rename_i d s3 h3
                simp only [Option.some.injEq, Prod.mk.injEq] at h2
                obtain ⟨_, rfl⟩ := h2
                exact frozenL_bare hs h3
              · simp at h2
            | junk =>
              simp only [freezeW, Option.some.injEq, Prod.mk.injEq] at h2
              exact ⟨rfl, h2.2.symm⟩
          · simp at h1
        | tup l =>
          simp only [freezeV, Option.some.injEq, Prod.mk.injEq] at h1
          exact ⟨rfl, h1.2.symm⟩
      obtain ⟨hf, rfl⟩ := hf
      split at h
      · rename_i r s2 h2
        simp only [List.all_cons, hf, frozenVs_bare hs h2, Bool.and_self]
      · simp at h
    · simp at h
end Go.S3
