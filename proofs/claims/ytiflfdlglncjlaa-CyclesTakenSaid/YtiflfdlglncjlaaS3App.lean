/-
  Soundness of the symbolic executor, part 5: append. Conditions: none (lemmas).
-/
import Derived.Test.YtiflfdlglncjlaaS3Sl
set_option linter.unusedSimpArgs false
set_option linter.unusedVariables false
namespace Go.S3
variable {P : Program}

theorem litC_ok {lit b : Bool} {chk : Option Bool} (h : litC lit b = some chk) (hc : chk ≠ some false) : b = true := by
  unfold litC at h
  split at h
  · split at h
    · rfl
    · simp at h
  · simp only [Option.some.injEq] at h; subst h
    cases b with
    | true => rfl
    | false => exact absurd rfl hc

theorem elN_left {r : R} {a b : List r.den} {i : Nat} (h : i < a.length) : elN r (a ++ b) i = elN r a i := by
  simp only [elN, List.getD_eq_getElem?_getD, List.getElem?_append_left h]
theorem elN_right {r : R} {a b : List r.den} {i : Nat} (h : a.length ≤ i) : elN r (a ++ b) i = elN r b (i - a.length) := by
  simp only [elN, List.getD_eq_getElem?_getD, List.getElem?_append_right h]
/-- Two rows of elements behind one another. -/
theorem rows_app {x y : Ctx} {r : R} {a b : List r.den} {C olds news : List Value} (hx : FzLe x y)
    (ho : ∀ i j d, i < a.length → nth (elN r a i) j = some d → ∃ u, olds[i * r.wid + j]? = some u ∧ RA x.bare d u) (hn : ∀ i j d, i < b.length → nth (elN r b i) j = some d → ∃ u, news[i * r.wid + j]? = some u ∧ RA x.bare d u)
    (h1 : ∀ k, k < a.length * r.wid → C[k]? = olds[k]?) (h2 : ∀ k, k < b.length * r.wid → C[a.length * r.wid + k]? = news[k]?) :
    ∀ i j d, i < (a ++ b).length → nth (elN r (a ++ b) i) j = some d → ∃ u, C[i * r.wid + j]? = some u ∧ RA y.bare d u := by
  intro i j d hi hd
  have hp : plainA d = true := R.enc_plain _ _ _ (nth_mem hd)
  by_cases hlt : i < a.length
  · rw [elN_left hlt] at hd
    obtain ⟨u, e1, e2⟩ := ho i j d hlt hd
    exact ⟨u, by rw [h1 _ (elN_cell hlt hd)]; exact e1, e2.plain (x' := y.bare) hx hp⟩
  · have hge : a.length ≤ i := by omega
    rw [elN_right hge] at hd
    have hi' : i - a.length < b.length := by simp at hi; omega
    obtain ⟨u, e1, e2⟩ := hn _ j d hi' hd
    refine ⟨u, ?_, e2.plain (x' := y.bare) hx hp⟩
    have := h2 _ (elN_cell hi' hd)
    rw [← e1, ← this]
    congr 1
    have : a.length * r.wid + (i - a.length) * r.wid = i * r.wid := by rw [← Nat.add_mul]; congr 1; omega
    omega

theorem OldSame.drew_alloc (w : World) (o : Obj) : OldSame w (w.drew.alloc o) := ⟨by simp, fun k hk => RowKit.Below.heap_alloc w.drew o k hk⟩
theorem OldSame.drew (w : World) : OldSame w w.drew := ⟨Nat.le_refl _, fun _ _ => rfl⟩

/-- Elements that lie in a block that is frozen. -/
theorem lst_of_block {y : Ctx} {r : R} {l : List r.den} {C : List Value} {p cap : Nat} {lit full nn : Bool} (hcap : l.length ≤ cap) (hml : l.length ≤ maxLen) (hfull : full = true → cap = l.length)
    (hz : ∀ k u, C[k]? = some u → y.fz p k = some u) (hr : ∀ i j d, i < l.length → nth (elN r l i) j = some d → ∃ u, C[i * r.wid + j]? = some u ∧ RA y.bare d u) :
    RA y (.lst r lit full nn l) (.slice (some ⟨p, 0, none⟩) l.length cap) := by
  by_cases h0 : l = []
  · subst h0
    exact .lst0 _ _ _ _ _ _ _ _ rfl (fun e => hfull e) (fun _ => rfl)
  · refine .lst _ _ _ _ _ _ p 0 cap (fun i j => (C[i * r.wid + j]?).getD undef) h0 hfull hcap hml (fun i j d hi hd => ?_) (fun i j d hi hd => ?_)
    · obtain ⟨u, e1, _⟩ := hr i j d hi hd
      rw [Nat.zero_add, hz _ _ e1, e1]; rfl
    · obtain ⟨u, e1, e2⟩ := hr i j d hi hd
      rw [e1]; exact e2

theorem isNil_iff {α : Type} {l : List α} : isNil l = true ↔ l = [] := by cases l <;> simp [isNil]

theorem appC_ok {r : R} {q p : Sq r} {chk : Option Bool} (h : appC q p = some chk) (hc : chk ≠ some false) (hq : 0 < q.ub → q.l.length < q.ub) : (q.l ++ p.l).length ≤ most := by
  unfold appC at h
  split at h
  · rename_i hb
    simp only [Bool.and_eq_true, Nat.blt_eq, Nat.ble_eq] at hb
    have := ubA_ok (p := p) hq hb.1
    omega
  · have := litC_ok h hc; simpa using this
set_option maxHeartbeats 1000000 in
theorem appendA_ok {x : Ctx} {s : St} {w : World} (hm : MemOk x s.mem w) {xa ya : A} {vx vy : Value} (hx : RA x xa vx) (hy : RA x ya vy) {t t' : TypeId} (ty : TypeId) {res : Res}
    (h : appendA P s t t' xa ya = some res) (hc : res.chk ≠ some false) :
    ∃ v w' x', (Builtin.append_ #[t, t'] ty #[vx, vy]).run P w = .ok v w' ∧ RV x' res.v v ∧ MemOk x' res.m w' ∧ Ext x x' ∧ Step x w w' := by
  unfold appendA at h
  split at h
  case h_2 => simp at h
  rename_i elem hbt hu
  simp only [Nat.beq_eq] at hbt
  subst hbt
  split at h
  · simp at h
  rename_i r hel
  obtain ⟨i, z, hi, hz, hzs, hsz, hby, hw⟩ := elemT_of hel
  split at h
  case h_2 => simp at h
  rename_i q p hq hp
  split at h
  · simp at h
  rename_i chk hchk
  obtain ⟨b, cap2, news, rfl, SY⟩ := sqOf_ok hm.toR hy hp
  split at h
  · -- a slice of the call's own
    rename_i hh ver
    simp only [sqOf] at hq
    split at h
    case h_2 => simp at h
    rename_i g hg
    rw [hg] at hq
    simp only at hq
    split at h
    case h_2 => simp at h
    rename_i hT
    simp only [Nat.beq_eq] at hT
    simp only [Option.some.injEq] at h; subst h
    have hub := sqOf_ub (r := r) hm.toR hx (q := q) (by simp only [sqOf, hg]; exact hq)
    have hubA := ubA_ok (p := p) hub
    have hbig : (q.l ++ p.l).length ≤ most := appC_ok hchk hc hub
    split at hq
    case h_2 => simp at hq
    rename_i e he
    simp only [Option.some.injEq] at hq; subst hq
    obtain ⟨si, hs, hok, rfl⟩ := tip_of hm.toR hx hg
    obtain ⟨hg1, hg2⟩ := stgOf_some hg
    obtain ⟨gr, gT, gl, gv, gf, gff, glit, gub⟩ := g
    cases e
    simp only at hT hg2
    subst hT; subst hg2
    obtain ⟨a, cap, olds, hv, SX, hblk, hnil⟩ := slOk_tip hok
    simp only [EqR.cast, EqR.slc] at *
    have hver : si.ver = gv := hok.ver
    rw [hv]
    have hfin : ∀ (v' : Value) (w' : World) (s' : SI), (Builtin.append_ #[t, t] ty #[.slice a gl.length cap, .slice b p.l.length cap2]).run P w = .ok v' w' → v' = tipVal s' → s'.ver = gv + 1 → Step x w w' →
        (MemOk { x with S := setN x.S hh s', fz := x.fz } { s.mem with stgs := setN s.mem.stgs hh { r := gr, T := gT, l := gl ++ p.l, ver := gv + 1, fzn := gf, ffz := false, lit := glit && p.lit, ub := ubA ⟨glit, false, gl, gub⟩ p } } w' ∧ Ext x { x with S := setN x.S hh s', fz := x.fz }) →
        ∃ v w' x', (Builtin.append_ #[t, t] ty #[.slice a gl.length cap, .slice b p.l.length cap2]).run P w = .ok v w' ∧ RV x' (.w (.one (.tip hh (gv + 1)))) v ∧
          MemOk x' { s.mem with stgs := setN s.mem.stgs hh { r := gr, T := gT, l := gl ++ p.l, ver := gv + 1, fzn := gf, ffz := false, lit := glit && p.lit, ub := ubA ⟨glit, false, gl, gub⟩ p } } w' ∧ Ext x x' ∧ Step x w w' := by
      intro v' w' s' hr hv' hs' hst ⟨m1, m2⟩
      refine ⟨v', w', _, hr, ?_, m1, m2, hst⟩
      refine .tip _ _ _ s' _ (nth_set_self hs) (by omega) (fun _ => hv') ?_
      rw [hv']; unfold tipVal; split <;> trivial
    by_cases h0 : p.l = []
    · -- nothing is appended
      have hl0 : p.l.length = 0 := by rw [h0]; rfl
      refine hfin (tipVal si) w { si with ver := gv + 1 } (by rw [hl0, hv]; exact append_zero hu hi a b _ cap cap2 SX.hcap) (by unfold tipVal; rfl) rfl (Step.refl x w) ?_
      refine hm.setS hg1 hs ⟨by simp [hver], fun e => by simp at e; omega⟩ (Nat.le_refl _) (fun _ _ _ => rfl) (fun _ _ _ e => e) (fun _ _ _ _ => rfl) hm.fz (fun p' c' e => .inl ⟨c', e⟩) ?_
      refine ⟨rfl, by simp [hok.n, h0], hok.wd, hok.nil, fun p' c' e => ?_, hok.fzn, fun e => by simp at e, hubA⟩
      obtain ⟨C, c1, c2, c3, c4, c5, c6, c7, c8⟩ := hok.row p' c' e
      refine ⟨C, c1, c2, c3, c4, ?_, c6, c7, c8⟩
      simp only [h0, List.append_nil]
      exact fun i' j' d hi' hd => let ⟨u, e1, e2⟩ := c5 i' j' d hi' hd; ⟨u, e1, e2.plain (fun _ _ _ e => e) (R.enc_plain _ _ _ (nth_mem hd))⟩
    · have hpl : 0 < p.l.length := List.length_pos_iff.2 h0
      have hb : ∃ bb, b = some bb := by
        cases b with
        | none => exact absurd (SY.hnone rfl) h0
        | some bb => exact ⟨bb, rfl⟩
      obtain ⟨bb, rfl⟩ := hb
      have hnl : news.length = p.l.length * i.size := by rw [← hw]; exact SY.hlen
      have hnc := SY.hcell bb rfl
      have hbig' : gl.length + p.l.length ≤ most := by simpa using hbig
      by_cases hroom : gl.length + p.l.length ≤ cap
      · -- in its place
        cases hbk : si.blk with
        | none => obtain ⟨_, hcap0⟩ := hnil hbk; omega
        | some pc =>
          obtain ⟨p0, c0⟩ := pc
          obtain ⟨ha, hcc⟩ := hblk p0 c0 hbk
          subst ha; subst hcc
          obtain ⟨C, c1, c2, c3, c4, c5, c6, c7, c8⟩ := hok.row p0 cap hbk
          simp only at c2 c5 c6 c7 c8
          have hn : si.n = gl.length := hok.n
          have hfit : gl.length * i.size + news.length ≤ C.toArray.size := by
            have : gl.length * i.size + news.length ≤ cap * i.size := by rw [hnl, ← Nat.add_mul]; exact Nat.mul_le_mul_right _ hroom
            simp only [List.size_toArray, c2, hw]; exact this
          have hr := run_append_room (P := P) w t ty gT i hu hi p0 gl.length cap C.toArray c1 bb p.l.length cap2 news hnl hnc SY.one hroom hfit
          have hown := hm.sown hh si p0 cap hs hbk
          have hrow := setRow_heap w p0 C.toArray (C.take (gl.length * i.size) ++ news ++ C.drop (gl.length * i.size + news.length)).toArray gT (0, 0) c1
          refine hfin _ _ { si with n := gl.length + p.l.length, ver := gv + 1 } hr (by simp only [tipVal, hbk]) rfl ⟨rfl, rfl, rfl, by simp, fun k hk => setRow_other w p0 k _ (fun e => hk (e ▸ hown.1))⟩ ?_
          have hCl : (C.take (gl.length * i.size)).length = gl.length * i.size := by
            have := hfit; simp only [List.size_toArray] at this; simp; omega
          have hC1 : ∀ k, k < gl.length * gr.wid → (C.take (gl.length * i.size) ++ news ++ C.drop (gl.length * i.size + news.length))[k]? = C[k]? := by
            intro k hk
            rw [hw] at hk
            rw [List.append_assoc, List.getElem?_append_left (by rw [hCl]; exact hk), List.getElem?_take, if_pos hk]
          refine hm.setS hg1 hs ⟨by simp [hver], fun e => by simp at e; omega⟩ (by simp) (fun k hk hne => setRow_other w p0 k _ (fun e => hne cap (e ▸ hbk))) (fun _ _ _ e => e) (fun _ _ _ _ => rfl) ?_ (fun p' c' e => .inl ⟨c', e⟩) ?_
          · intro b' o' v' e
            by_cases hbe : b' = p0
            · subst hbe
              have ho : o' < si.fc := by
                rcases Nat.lt_or_ge o' si.fc with h1 | h1
                · exact h1
                · rw [c8 o' h1] at e; simp at e
              refine Eq.trans (cell_of_heap hrow o') ?_
              rw [hC1 o' (by rw [hn] at c6; omega), ← c7 o' ho]; exact e
            · rw [World.cell?_of_block (w := w) (a := ⟨b', o', none⟩) (setRow_other w p0 b' _ hbe)]
              exact hm.fz b' o' v' e
          · refine ⟨rfl, by simp, hok.wd, fun e => ?_, fun p' c' e => ?_, hok.fzn, fun e => by simp at e, hubA⟩
            · have e : si.blk = none := e
              rw [hbk] at e; simp at e
            · have e : si.blk = some (p', c') := e
              rw [hbk] at e
              simp only [Option.some.injEq, Prod.mk.injEq] at e
              obtain ⟨rfl, rfl⟩ := e
              refine ⟨_, hrow, ?_, hroom, c4, ?_, ?_, fun o ho => ?_, c8⟩
              · have := hfit; simp only [List.size_toArray] at this
                simp only [List.length_append, List.length_drop, hCl]
                rw [← c2]; omega
              · have hlen : ∀ {k}, k < gl.length + p.l.length → k < (gl ++ p.l).length := by intro k hk; simpa using hk
                have := rows_app (y := { x with S := setN x.S hh { si with n := gl.length + p.l.length, ver := gv + 1 }, fz := x.fz }) (C := C.take (gl.length * i.size) ++ news ++ C.drop (gl.length * i.size + news.length)) (fun _ _ _ e => e) (fun i' j' d hi' hd => c5 i' j' d (by rw [hn]; exact hi') hd) SY.hrow hC1
                  (fun k hk => by
                    rw [hw] at hk ⊢
                    rw [List.append_assoc, List.getElem?_append_right (by rw [hCl]; omega), hCl, List.getElem?_append_left (by rw [hnl]; omega)]
                    congr 1; omega)
                exact fun i' j' d hi' hd => this i' j' d (hlen hi') hd
              · show si.fc ≤ (gl.length + p.l.length) * gr.wid
                rw [hn] at c6
                exact Nat.le_trans c6 (Nat.mul_le_mul_right _ (by omega))
              · rw [hC1 o (by rw [hn] at c6; exact Nat.lt_of_lt_of_le ho c6)]; exact c7 o ho
      · -- in a new block
        obtain ⟨cap', zs, hr, k1, k2, k3⟩ := append_fresh (P := P) (ty := ty) hu hi hz hzs hby a gl.length cap olds (by rw [← hw]; exact SX.hlen) SX.hcell (fun e => by
          have := SX.hnone e
          refine ⟨by rw [this]; rfl, ?_⟩
          cases hbk : si.blk with
          | none => exact (hnil hbk).2
          | some pc => rw [(hblk pc.1 pc.2 hbk).1] at e; simp at e) bb p.l.length cap2 news hnl hnc (by omega) hbig'
        have hos := OldSame.drew_alloc w (.cells (olds ++ news ++ zs).toArray gT)
        refine hfin _ _ { blk := some (w.heap.size, cap'), na := none, n := gl.length + p.l.length, w := si.w, ver := gv + 1, fc := 0 } hr (by simp only [tipVal]) rfl (hos.step hm rfl rfl rfl) ?_
        refine hm.setS hg1 hs ⟨by simp [hver], fun e => by simp at e; omega⟩ hos.1 (fun k hk _ => hos.2 k hk) (fun _ _ _ e => e) (fun _ _ _ _ => rfl) (fun b' o' v' e => hos.cell (hm.fz b' o' v' e)) (fun p' c' e => by simp at e; exact .inr (by omega)) ?_
        have hol : olds.length = gl.length * gr.wid := SX.hlen
        refine ⟨rfl, by simp, hok.wd, fun e => by simp at e, fun p' c' e => ?_, fun _ => rfl, fun e => by simp at e, hubA⟩
        simp only [Option.some.injEq, Prod.mk.injEq] at e
        obtain ⟨rfl, rfl⟩ := e
        refine ⟨olds ++ news ++ zs, heap_alloc_new w.drew _, by rw [hw]; exact k3, k1, k2, ?_, Nat.zero_le _, fun o ho => by simp at ho, fun o _ => hm.fz_new (Nat.le_refl _) o⟩
        have hlen : ∀ {k}, k < gl.length + p.l.length → k < (gl ++ p.l).length := by intro k hk; simpa using hk
        have := rows_app (y := { x with S := setN x.S hh { blk := some (w.heap.size, cap'), na := none, n := gl.length + p.l.length, w := si.w, ver := gv + 1, fc := 0 }, fz := x.fz }) (C := olds ++ news ++ zs) (fun _ _ _ e => e) SX.hrow SY.hrow
          (fun k hk => by rw [List.append_assoc, List.getElem?_append_left (by omega)])
          (fun k hk => by
            rw [List.append_assoc, List.getElem?_append_right (by omega), List.getElem?_append_left (by rw [SY.hlen]; omega)]
            congr 1; omega)
        exact fun i' j' d hi' hd => this i' j' d (hlen hi') hd
  · -- another slice, which is full
    rename_i hnt
    split at h
    case h_2 => simp at h
    rename_i hfull
    obtain ⟨a, cap, olds, rfl, SX⟩ := sqOf_ok hm.toR hx hq
    have hcap : cap = q.l.length := SX.hfull hfull
    have hbig : (q.l ++ p.l).length ≤ most := by
      have : chk ≠ some false := by
        split at h <;> (simp only [Option.some.injEq, newStg, ofSt] at h; subst h; exact hc)
      exact appC_ok hchk this (sqOf_ub hm.toR hx hq)
    have hubA := ubA_ok (p := p) (sqOf_ub hm.toR hx hq)
    have hbig' : q.l.length + p.l.length ≤ most := by simpa using hbig
    have hol : olds.length = q.l.length * r.wid := SX.hlen
    -- in a new block, where something is appended
    have fresh : p.l ≠ [] → ∃ cap' zs, (Builtin.append_ #[t, t] ty #[.slice a q.l.length cap, .slice b p.l.length cap2]).run P w = .ok (.slice (some ⟨w.heap.size, 0, none⟩) (q.l.length + p.l.length) cap') (w.drew.alloc (.cells (olds ++ news ++ zs).toArray elem)) ∧
        q.l.length + p.l.length ≤ cap' ∧ cap' ≤ maxLen ∧ (olds ++ news ++ zs).length = cap' * r.wid ∧
        ∀ y, FzLe x y → ∀ i' j' d, i' < (q.l ++ p.l).length → nth (elN r (q.l ++ p.l) i') j' = some d → ∃ u, (olds ++ news ++ zs)[i' * r.wid + j']? = some u ∧ RA (Ctx.bare y) d u := by
      intro h0
      have hpl : 0 < p.l.length := List.length_pos_iff.2 h0
      have hb : ∃ bb, b = some bb := by
        cases b with
        | none => exact absurd (SY.hnone rfl) h0
        | some bb => exact ⟨bb, rfl⟩
      obtain ⟨bb, rfl⟩ := hb
      obtain ⟨cap', zs, hr, k1, k2, k3⟩ := append_fresh (P := P) (ty := ty) hu hi hz hzs hby a q.l.length cap olds (by rw [← hw]; exact SX.hlen) SX.hcell (fun e => by
        have := SX.hnone e
        exact ⟨by rw [this]; rfl, by rw [hcap, this]; rfl⟩) bb p.l.length cap2 news (by rw [← hw]; exact SY.hlen) (SY.hcell bb rfl) (by omega) hbig'
      refine ⟨cap', zs, hr, k1, k2, by rw [hw]; exact k3, fun y hy => ?_⟩
      exact rows_app (y := y) (C := olds ++ news ++ zs) hy SX.hrow SY.hrow
          (fun k hk => by rw [List.append_assoc, List.getElem?_append_left (by omega)])
          (fun k hk => by
            rw [List.append_assoc, List.getElem?_append_right (by omega), List.getElem?_append_left (by rw [SY.hlen]; omega)]
            congr 1; omega)
    have hsl := hm.sl
    split at h
    · -- a slice of the call's own from now on
      rename_i hflag
      simp only [newStg, Option.some.injEq] at h; subst h
      have tipOk : ∀ (s' : SI) (v' : Value), v' = tipVal s' → s'.ver = 0 → RV { x with S := x.S ++ [s'] } (.w (.one (.tip (len s.mem.stgs) 0))) v' := by
        intro s' v' hv' h0
        refine .tip _ _ _ s' _ ?_ (Nat.zero_le _) (fun _ => hv') (by rw [hv']; unfold tipVal; split <;> trivial)
        rw [len_eq, ← hsl, nth_eq]; simp
      by_cases h0 : p.l = []
      · have hq0 : q.l = [] := by
          simp only [h0, isNil, Bool.not_true, Bool.and_false, Bool.or_false, Bool.and_eq_true] at hflag
          exact isNil_iff.1 hflag.2
        have hl0 : p.l.length = 0 := by rw [h0]; rfl
        have hc0 : cap = 0 := by rw [hcap, hq0]; rfl
        have hql : q.l.length = 0 := by rw [hq0]; rfl
        obtain ⟨m1, m2⟩ := hm.addS (s := { blk := none, na := a, n := 0, w := r.wid, ver := 0, fc := 0 }) (g := { r := r, T := elem, l := q.l ++ p.l, ver := 0, fzn := false, ffz := false, lit := q.lit && p.lit, ub := ubA q p }) (OldSame.refl w) (fun p' c' e => by simp at e)
          ⟨rfl, by simp [h0, hq0], rfl, fun _ => ⟨rfl, rfl⟩, fun p' c' e => by simp at e, fun _ => rfl, fun e => by simp at e, hubA⟩
        exact ⟨_, w, _, by rw [hl0]; exact append_zero hu hi a b _ cap cap2 SX.hcap, tipOk _ _ (by simp [tipVal, hql, hc0]) rfl, m1, m2, Step.refl x w⟩
      · obtain ⟨cap', zs, hr, k1, k2, k3, k4⟩ := fresh h0
        have hos := OldSame.drew_alloc w (.cells (olds ++ news ++ zs).toArray elem)
        obtain ⟨m1, m2⟩ := hm.addS (s := { blk := some (w.heap.size, cap'), na := none, n := q.l.length + p.l.length, w := r.wid, ver := 0, fc := 0 }) (g := { r := r, T := elem, l := q.l ++ p.l, ver := 0, fzn := false, ffz := false, lit := q.lit && p.lit, ub := ubA q p }) hos (fun p' c' e => by simp at e; omega)
          (by
            refine ⟨rfl, by simp, rfl, fun e => by simp at e, fun p' c' e => ?_, fun _ => rfl, fun e => by simp at e, hubA⟩
            simp only [Option.some.injEq, Prod.mk.injEq] at e
            obtain ⟨rfl, rfl⟩ := e
            have hlen : ∀ {k}, k < q.l.length + p.l.length → k < (q.l ++ p.l).length := by intro k hk; simpa using hk
            exact ⟨olds ++ news ++ zs, heap_alloc_new w.drew _, k3, k1, k2, fun i' j' d hi' hd => k4 _ (fun _ _ _ e => e) i' j' d (hlen hi') hd, Nat.zero_le _, fun o ho => by simp at ho, fun o _ => hm.fz_new (Nat.le_refl _) o⟩)
        exact ⟨_, _, _, hr, tipOk _ _ (by simp [tipVal]) rfl, m1, m2, hos.step hm rfl rfl rfl⟩
    · -- nobody's
      simp only [ofSt, Option.some.injEq] at h; subst h
      by_cases h0 : p.l = []
      · have hl0 : p.l.length = 0 := by rw [h0]; rfl
        refine ⟨_, w, x, by rw [hl0]; exact append_zero hu hi a b _ cap cap2 SX.hcap, ?_, hm, Ext.refl x, Step.refl x w⟩
        show RA x (.lst r (q.lit && p.lit) false false (q.l ++ p.l)) _
        rw [h0, List.append_nil]
        unfold sqOf at hq
        cases xa with
        | nilsl =>
          simp only [Option.some.injEq] at hq; subst hq
          exact RA.nil_lst hx
        | lst r' lit full nn l =>
          simp only at hq
          split at hq
          · rename_i e _
            simp only [Option.some.injEq] at hq; subst hq
            cases e
            exact RA.lst_weak hx (fun e => by simp at e) (fun e => by simp at e)
          · simp at hq
        | tip h ver => exact absurd rfl (hnt h ver)
        | _ => simp at hq
      · obtain ⟨cap', zs, hr, k1, k2, k3, k4⟩ := fresh h0
        have hm' := hm.old (OldSame.drew w)
        obtain ⟨m1, m2⟩ := hm'.frzNew (olds ++ news ++ zs) elem
        refine ⟨_, _, _, hr, ?_, m1, m2, (OldSame.drew_alloc w _).step hm rfl rfl rfl⟩
        have hle := m2.fz
        have := lst_of_block (y := { x with fz := fun b o => if b = w.drew.heap.size then (olds ++ news ++ zs)[o]? else x.fz b o }) (r := r) (l := q.l ++ p.l) (C := olds ++ news ++ zs) (p := w.heap.size) (cap := cap') (lit := q.lit && p.lit) (full := false) (nn := false)
          (by simpa using k1) (by simp only [maxLen, most, List.length_append] at *; omega) (fun e => by simp at e) (fun k u e => (if_pos rfl).trans e) (fun i' j' d hi' hd => k4 _ (fun b o v e => hle b o v e) i' j' d hi' hd)
        rw [List.length_append] at this
        exact this
end Go.S3
