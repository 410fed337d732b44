/-
  Soundness of the symbolic executor, part 4: slices. Conditions: none (lemmas).
-/
import Derived.Test.YtiflfdlglncjlaaS3Mem
set_option linter.unusedSimpArgs false
set_option linter.unusedVariables false
namespace Go.S3
variable {P : Program}

theorem R.same_eq {a b : R} {e : EqR a b} (_h : R.same a b = some e) : a = b := by cases e; rfl
theorem elemT_of {t : TypeId} {r : R} (h : elemT P t = some r) : ∃ i z, P.info? t = some i ∧ i.zero = some z ∧ z.cells.size = i.size ∧ 0 < i.size ∧ i.bytes ≤ 65536 ∧ r.wid = i.size := by
  unfold elemT at h
  split at h
  · rename_i i hi
    split at h
    · rename_i z hz
      split at h
      · rename_i hb
        simp only [Bool.and_eq_true, Nat.beq_eq, Nat.blt_eq, Nat.ble_eq] at hb
        split at h
        · rename_i r' _
          split at h
          · rename_i hw
            simp only [Nat.beq_eq] at hw
            simp only [Option.some.injEq] at h; subst h
            exact ⟨i, z, hi, hz, hb.1.1, hb.1.2, hb.2, hw⟩
          · simp at h
        · simp at h
      · simp at h
    · simp at h
  · simp at h

/-- What a slice is made of. -/
structure SlOk (x : Ctx) (w : World) (r : R) (l : List r.den) (full : Bool) (a : Option Addr) (cap : Nat) (news : List Value) : Prop where
  hcap : l.length ≤ cap
  hml : l.length ≤ maxLen
  hfull : full = true → cap = l.length
  hnone : a = none → l = []
  hlen : news.length = l.length * r.wid
  hcell : ∀ p, a = some p → ∀ j u, news[j]? = some u → w.cell? (p.add j) = some u
  hrow : ∀ i j b, i < l.length → nth (elN r l i) j = some b → ∃ u, news[i * r.wid + j]? = some u ∧ RA x.bare b u
theorem elN_ex {r : R} {l : List r.den} {i j : Nat} (hj : j < r.wid) : ∃ a, nth (elN r l i) j = some a := nth_ex (by rw [elN, R.enc_len]; exact hj)
theorem oneCell_at {x : Ctx} {b : A} {u : Value} (h : RA x b u) : u.oneCell' = true := oneCell_of_atomic h.atomic
theorem SlOk.one {x : Ctx} {w : World} {r : R} {l : List r.den} {full : Bool} {a : Option Addr} {cap : Nat} {news : List Value} (h : SlOk x w r l full a cap news) : ∀ u ∈ news, u.oneCell' = true := by
  intro u hu
  obtain ⟨k, hk⟩ := List.getElem?_of_mem hu
  have hlt := (List.getElem?_eq_some_iff.1 hk).1
  rw [h.hlen] at hlt
  have hw : 0 < r.wid := by
    rcases Nat.eq_zero_or_pos r.wid with e | e
    · rw [e] at hlt; simp at hlt
    · exact e
  have h1 : k / r.wid < l.length := (Nat.div_lt_iff_lt_mul hw).2 hlt
  obtain ⟨b, hb⟩ := elN_ex (r := r) (l := l) (i := k / r.wid) (Nat.mod_lt k hw)
  obtain ⟨u', e1, e2⟩ := h.hrow _ _ b h1 hb
  have : k / r.wid * r.wid + k % r.wid = k := by rw [Nat.mul_comm]; exact Nat.div_add_mod k r.wid
  rw [this, hk] at e1
  simp only [Option.some.injEq] at e1; subst e1
  exact oneCell_at e2

theorem slOk_nil {x : Ctx} {w : World} {r : R} {full : Bool} (a : Option Addr) (cap : Nat) (hc : full = true → cap = 0) : SlOk x w r [] full a cap [] :=
  ⟨Nat.zero_le _, Nat.zero_le _, fun e => hc e, fun _ => rfl, by simp, fun p _ j u h => by simp at h, fun i j b h => by simp at h⟩
theorem slOk_lst {x : Ctx} {m : Mem} {w : World} (hm : MemR x m w) {r : R} {lit full nn : Bool} {l : List r.den} {v : Value} (h : RA x (.lst r lit full nn l) v) :
    ∃ a cap news, v = .slice a l.length cap ∧ SlOk x w r l full a cap news ∧ (nn = true → a.isSome = true) := by
  cases h with
  | lst0 _ _ _ _ _ _ a cap h1 h2 h3 => subst h1; exact ⟨a, cap, [], rfl, slOk_nil a cap h2, h3⟩
  | lst _ _ _ _ _ _ p o cap c h0 hf hc hml hz hr =>
    refine ⟨_, cap, (List.range (l.length * r.wid)).map fun k => c (k / r.wid) (k % r.wid), rfl, ⟨hc, hml, hf, fun e => by simp at e, by simp, ?_, ?_⟩, fun _ => rfl⟩
    · intro q hq j u hu
      simp only [Option.some.injEq] at hq; subst hq
      rw [add_none]
      have hlt := (List.getElem?_eq_some_iff.1 hu).1
      simp at hlt
      rw [List.getElem?_map, List.getElem?_range hlt] at hu
      simp only [Option.map_some, Option.some.injEq] at hu; subst hu
      have hw : 0 < r.wid := by
        rcases Nat.eq_zero_or_pos r.wid with e | e
        · rw [e] at hlt; simp at hlt
        · exact e
      have h1 : j / r.wid < l.length := (Nat.div_lt_iff_lt_mul hw).2 hlt
      obtain ⟨b, hb⟩ := elN_ex (r := r) (l := l) (i := j / r.wid) (Nat.mod_lt j hw)
      have := hm.fz _ _ _ (hz _ _ b h1 hb)
      have e : o + j / r.wid * r.wid + j % r.wid = o + j := by rw [Nat.add_assoc, Nat.mul_comm, Nat.div_add_mod]
      rw [e] at this; exact this
    · intro i j b hi hb
      have hj := elN_lt hb
      have hk := elN_cell hi hb
      have hw : 0 < r.wid := by omega
      refine ⟨c i j, ?_, hr i j b hi hb⟩
      rw [List.getElem?_map, List.getElem?_range hk]
      simp only [Option.map_some, Option.some.injEq]
      rw [Nat.mul_comm, Nat.mul_add_div hw, Nat.div_eq_of_lt hj, Nat.mul_add_mod, Nat.mod_eq_of_lt hj, Nat.add_zero]
theorem slOk_tip {x : Ctx} {g : Stg} {s : SI} {w : World} (h : StgOk x g s w) : ∃ a cap news, tipVal s = .slice a g.l.length cap ∧ SlOk x w g.r g.l false a cap news ∧
    (∀ p c, s.blk = some (p, c) → a = some ⟨p, 0, none⟩ ∧ cap = c) ∧ (s.blk = none → a = s.na ∧ cap = 0) := by
  cases hb : s.blk with
  | none =>
    have hn := (h.nil hb).1
    have hl : g.l = [] := List.eq_nil_of_length_eq_zero (by rw [← h.n]; exact hn)
    refine ⟨s.na, 0, [], by rw [tipVal_none hb, hl]; rfl, by rw [hl]; exact slOk_nil _ _ (fun e => by simp at e), fun p c e => by simp at e, fun _ => ⟨rfl, rfl⟩⟩
  | some pc =>
    obtain ⟨p, cap⟩ := pc
    obtain ⟨C, c1, c2, c3, c4, c5, c6, c7, c8⟩ := h.row p cap hb
    have hn := h.n
    have hcl : g.l.length * g.r.wid ≤ C.length := by rw [c2, ← hn]; exact Nat.mul_le_mul_right _ c3
    refine ⟨some ⟨p, 0, none⟩, cap, C.take (g.l.length * g.r.wid), by rw [tipVal_blk hb, hn], ⟨by rw [← hn]; exact c3, by omega, fun e => by simp at e, fun e => by simp at e, by simp; omega, ?_, ?_⟩, fun p' c' e => by simp at e; obtain ⟨rfl, rfl⟩ := e; exact ⟨rfl, rfl⟩, fun e => by simp at e⟩
    · intro q hq j u hu
      simp only [Option.some.injEq] at hq; subst hq
      rw [add_none, Nat.zero_add, cell_of_heap c1]
      rw [List.getElem?_take] at hu
      split at hu
      · exact hu
      · simp at hu
    · intro i j b hi hbb
      obtain ⟨v, e1, e2⟩ := c5 i j b (by rw [hn]; exact hi) hbb
      refine ⟨v, ?_, e2⟩
      rw [List.getElem?_take, if_pos (elN_cell hi hbb)]; exact e1
/-- What sqOf finds. -/
theorem sqOf_ok {x : Ctx} {m : Mem} {w : World} (hm : MemR x m w) {r : R} {y : A} {v : Value} (hv : RA x y v) {q : Sq r} (hq : sqOf r m y = some q) :
    ∃ a cap news, v = .slice a q.l.length cap ∧ SlOk x w r q.l q.full a cap news := by
  cases y with
  | nilsl =>
    simp only [sqOf, Option.some.injEq] at hq; subst hq
    cases hv
    exact ⟨none, 0, [], rfl, slOk_nil _ _ (fun _ => rfl)⟩
  | lst r' lit full nn l =>
    simp only [sqOf] at hq
    split at hq
    · rename_i e _
      simp only [Option.some.injEq] at hq; subst hq
      cases e
      obtain ⟨a, cap, news, h1, h2, _⟩ := slOk_lst hm hv
      exact ⟨a, cap, news, h1, h2⟩
    · simp at hq
  | tip h ver =>
    simp only [sqOf] at hq
    split at hq
    · rename_i g hg
      split at hq
      · rename_i e he
        simp only [Option.some.injEq] at hq; subst hq
        obtain ⟨s, hs, hok, rfl⟩ := tip_of hm hv hg
        obtain ⟨a, cap, news, h1, h2, _⟩ := slOk_tip hok
        obtain ⟨gr, gT, gl, gv, gf, gff, glit, gub⟩ := g
        cases e
        exact ⟨a, cap, news, h1, h2⟩
      · simp at hq
    · simp at hq
  | _ => simp [sqOf] at hq

/-- What is known of a slice's length. -/
theorem sqOf_ub {x : Ctx} {m : Mem} {w : World} (hm : MemR x m w) {r : R} {y : A} {v : Value} (hv : RA x y v) {q : Sq r} (hq : sqOf r m y = some q) : 0 < q.ub → q.l.length < q.ub := by
  cases y with
  | nilsl =>
    simp only [sqOf, Option.some.injEq] at hq; subst hq
    intro _; simp
  | lst r' lit full nn l =>
    simp only [sqOf] at hq
    split at hq
    · rename_i e _
      simp only [Option.some.injEq] at hq; subst hq
      cases e
      cases lit <;> simp [EqR.cast, EqR.slc]
    · simp at hq
  | tip h ver =>
    simp only [sqOf] at hq
    split at hq
    · rename_i g hg
      split at hq
      · rename_i e he
        simp only [Option.some.injEq] at hq; subst hq
        obtain ⟨s, hs, hok, rfl⟩ := tip_of hm hv hg
        have := hok.ub
        obtain ⟨gr, gT, gl, gv, gf, gff, glit, gub⟩ := g
        cases e
        exact this
      · simp at hq
    · simp at hq
  | _ => simp [sqOf] at hq
theorem ubA_ok {r : R} {q p : Sq r} (hq : 0 < q.ub → q.l.length < q.ub) : 0 < ubA q p → (q.l ++ p.l).length < ubA q p := by
  unfold ubA
  split
  · rename_i h
    simp only [Bool.and_eq_true, Nat.blt_eq] at h
    intro _
    have := hq h.1
    rw [List.length_append]; omega
  · intro h; omega

/-! ### append -/
theorem append_zero {w : World} {t ty e : TypeId} (ht : P.underlying t = some (.slice e)) {i : TypeInfo} (hi : P.info? e = some i) (a b : Option Addr) (n cap c : Nat) (hc : n ≤ cap) :
    (Builtin.append_ #[t, t] ty #[.slice a n cap, .slice b 0 c]).run P w = .ok (.slice a n cap) w := by
  have hne : ¬ (TypeDesc.slice e matches .int _) := by simp
  have hl : ∀ p : Addr, (loadCells p 0).run P w = .ok #[] w := fun p => run_loadCells w p 0 (fun _ => undef) (fun j hj => by omega)
  have hs : ∀ p : Addr, (storeCells p [] 0).run P w = .ok () w := fun p => rfl
  cases a <;> cases b <;> simp [Builtin.append_, run_underlying ht, sizeOf, typeInfo, hi, Builtin.lenOf, Builtin.firstCells, hl, hs, hc]

/-- The result in a new block. -/
theorem append_fresh {w : World} {t ty e : TypeId} (ht : P.underlying t = some (.slice e)) {i : TypeInfo} {z : Value} (hi : P.info? e = some i) (hz : i.zero = some z) (hzs : z.cells.size = i.size) (hby : i.bytes ≤ 65536)
    (a : Option Addr) (n cap : Nat) (olds : List Value) (hol : olds.length = n * i.size) (hoc : ∀ p, a = some p → ∀ j u, olds[j]? = some u → w.cell? (p.add j) = some u) (han : a = none → n = 0 ∧ cap = 0)
    (b : Addr) (m c : Nat) (news : List Value) (hnl : news.length = m * i.size) (hnc : ∀ j u, news[j]? = some u → w.cell? (b.add j) = some u) (hgr : cap < n + m) (hbig : n + m ≤ most) :
    ∃ cap' zs, (Builtin.append_ #[t, t] ty #[.slice a n cap, .slice (some b) m c]).run P w = .ok (.slice (some ⟨w.heap.size, 0, none⟩) (n + m) cap') (w.drew.alloc (.cells (olds ++ news ++ zs).toArray e)) ∧
      n + m ≤ cap' ∧ cap' ≤ maxLen ∧ (olds ++ news ++ zs).length = cap' * i.size := by
  have hml : n + m ≤ maxLen := by simp only [maxLen, most] at *; omega
  have h63 : n + m ≤ 9223372036854775807 := by simp only [most] at *; omega
  have hbytes : (n + m) * i.bytes ≤ 140737488355328 := by
    have : (n + m) * i.bytes ≤ 1073741824 * 65536 := Nat.mul_le_mul hbig hby
    omega
  have size : ∀ old, (olds ++ news ++ (Builtin.zeroCells z.cells (grownCap w (n + m) old e - (n + m))).toList).length = grownCap w (n + m) old e * i.size := by
    intro old
    have hge := grownCap_ge w (n + m) old e
    simp only [List.length_append, Array.length_toList, size_zeroCells, hzs, hol, hnl, ← Nat.add_mul]
    congr 1; omega
  cases a with
  | none =>
    obtain ⟨rfl, rfl⟩ := han rfl
    have ho : olds = [] := List.eq_nil_of_length_eq_zero (by simpa using hol)
    subst ho
    have hr := run_append_nil (P := P) w t ty e i z ht hi hz b m c news hnl hnc (by omega) (by omega) (by rw [Nat.zero_add] at hbytes; omega)
    refine ⟨grownCap w (0 + m) 0 e, (Builtin.zeroCells z.cells (grownCap w (0 + m) 0 e - (0 + m))).toList, ?_, grownCap_ge _ _ _ _, grownCap_le_maxLen _ _ _ _ hml, size 0⟩
    rw [hr, Nat.zero_add]
    congr 3
    apply Array.ext'; simp
  | some p =>
    have hr := run_append_grow (P := P) w t ty e i z ht hi hz p n cap olds hol (hoc p rfl) b m c news hnl hnc hgr (by omega) (growslice_fits hgr hbytes)
    refine ⟨grownCap w (n + m) cap e, (Builtin.zeroCells z.cells (grownCap w (n + m) cap e - (n + m))).toList, ?_, grownCap_ge _ _ _ _, grownCap_le_maxLen _ _ _ _ hml, size cap⟩
    rw [hr]
    congr 3
    apply Array.ext'; simp
end Go.S3
