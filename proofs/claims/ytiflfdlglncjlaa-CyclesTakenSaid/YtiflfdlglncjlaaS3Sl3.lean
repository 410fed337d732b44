/-
  Soundness of the symbolic executor, part 8: slices that are built, made, stored into; strings. Conditions: none (lemmas).
-/
import Derived.Test.YtiflfdlglncjlaaS3Sl2
set_option linter.unusedSimpArgs false
set_option linter.unusedVariables false
namespace Go.S3
variable {P : Program}

/-- Between two worlds nothing that was there has turned. -/
def SameC (w w' : World) : Prop := OldSame w w' ∧ w'.os = w.os ∧ w'.tape = w.tape ∧ w'.output = w.output
theorem SameC.refl (w : World) : SameC w w := ⟨OldSame.refl w, rfl, rfl, rfl⟩
theorem SameC.trans {a b c : World} (h : SameC a b) (k : SameC b c) : SameC a c := ⟨h.1.trans k.1, k.2.1.trans h.2.1, k.2.2.1.trans h.2.2.1, k.2.2.2.trans h.2.2.2⟩
theorem SameC.drew (w : World) : SameC w { w with drawn := w.drawn + 1 } := ⟨⟨Nat.le_refl _, fun _ _ => rfl⟩, rfl, rfl, rfl⟩
theorem SameC.alloc (w : World) (o : Obj) : SameC w (w.alloc o) := ⟨OldSame.alloc w o, rfl, rfl, rfl⟩
theorem SameC.step {x : Ctx} {m : Mem} {w w' : World} (h : SameC w w') (hm : MemOk x m w) : Step x w w' := h.1.step hm h.2.1 h.2.2.1 h.2.2.2

theorem repL_len (l : List A) : ∀ n, (repL l n).length = n * l.length
  | 0 => by simp [repL]
  | n + 1 => by simp only [repL, List.length_append, repL_len l n]; rw [Nat.succ_mul]; omega
theorem repL_nth (l : List A) : ∀ (n k : Nat), k < n * l.length → nth (repL l n) k = nth l (k % l.length)
  | 0, k, h => by simp at h
  | n + 1, k, h => by
    simp only [repL]
    rw [nth_eq]
    by_cases hk : k < l.length
    · rw [List.getElem?_append_left hk, Nat.mod_eq_of_lt hk, nth_eq]
    · have h1 : l.length ≤ k := by omega
      rw [List.getElem?_append_right h1, ← nth_eq, repL_nth l n (k - l.length) (by rw [Nat.succ_mul] at h; omega)]
      congr 1
      exact (Nat.mod_eq_sub_mod h1).symm
theorem decRows_ok {r : R} : ∀ {rows : List (List A)} {xs : List r.den}, decRows r rows = some xs → xs.length = rows.length ∧ ∀ j y, nth rows j = some y → ∃ x, xs[j]? = some x ∧ r.decW y = some x
  | [], xs, h => by simp only [decRows, Option.some.injEq] at h; subst h; exact ⟨rfl, fun j y e => by simp [nth_nil] at e⟩
  | y :: l, xs, h => by
    simp only [decRows] at h
    split at h
    · rename_i x xs' h1 h2
      simp only [Option.some.injEq] at h; subst h
      obtain ⟨q1, q2⟩ := decRows_ok h2
      refine ⟨by simp [q1], fun j y' e => ?_⟩
      cases j with
      | zero => simp only [nth, Option.some.injEq] at e; subst e; exact ⟨x, rfl, h1⟩
      | succ j => exact q2 j y' e
    · simp at h

theorem buildSliceB_ok {x : Ctx} {s : St} {m0 : Mem} {w : World} (hm : MemOk x m0 w) {t : TypeId} {n : Nat} {ps : List (Nat × Option (List A))} {vs : List (Nat × Value)} (hfst : ps.map (·.1) = vs.map (·.1)) (hps : PsOk x ps vs) {res : Res}
    (h : buildSliceB P s t n ps = some res) :
    res.m = s.mem ∧ res.bd = s.bd ∧ res.sd = s.sd ∧ ∃ v w' x', (Instr.buildSlice t n vs.toArray).run P w = .ok v w' ∧ RV x' res.v v ∧ MemOk x' m0 w' ∧ Ext x x' ∧ SameC w w' := by
  unfold buildSliceB at h
  split at h
  case h_2 => simp at h
  rename_i elem hu
  split at h
  case h_2 => simp at h
  rename_i r zl hel hzl
  obtain ⟨i, z, hi, hz, hzs, hsz, hby, hw⟩ := elemT_of hel
  split at h
  case h_2 => simp at h
  rename_i hbig
  simp only [Nat.ble_eq] at hbig
  split at h
  case h_2 => simp at h
  rename_i l hfill
  split at h
  case h_2 => simp at h
  rename_i rows hrows
  split at h
  case h_2 => simp at h
  rename_i xs hxs
  simp only [ofSt, Option.some.injEq] at h; subst h
  refine ⟨rfl, rfl, rfl, ?_⟩
  obtain ⟨zv, hzr, hzl'⟩ := zeroT_run (P := P) (x := x) hzl
  have hzv : zv = z := by
    have := hzr w
    simp [zeroValue, typeInfo, hi, hz] at this
    exact this.symm
  subst hzv
  have hzlen : zl.length = i.size := by rw [hzl'.length, Array.length_toList, hzs]
  -- the zeros
  let Z : List Value := (List.range (n * i.size)).map fun k => zv.cells.toList[k % i.size]?.getD undef
  have hZ : RL x (repL zl n) Z := by
    refine RL.of_nth (by simp [Z, repL_len, hzlen]) fun k b hb => ?_
    have hk : k < n * i.size := by have := nth_lt hb; rwa [repL_len, hzlen] at this
    rw [repL_nth zl n k (by rw [hzlen]; exact hk), hzlen] at hb
    obtain ⟨u, e1, e2⟩ := hzl'.nth _ _ hb
    exact ⟨u, by simp only [Z]; rw [List.getElem?_map, List.getElem?_range hk]; simp only [Option.map_some, e1, Option.getD_some], e2⟩
  obtain ⟨D, hfl, hD⟩ := fillA_ok (x := x) (fun j => some (j * r.wid, r.wid)) ps vs (repL zl n) l Z hfst hps hZ hfill
  have hzeros : (if n * i.size = 0 then (pure #[] : Sem (Array Value)) else do pure (← zeroValue elem).cells).run P w = .ok (if n * i.size = 0 then #[] else zv.cells) w := by
    split
    · rfl
    · simp [hzr w]
  have hZa : ∀ C : Array Value, (n * i.size = 0 ∨ C = zv.cells) → ((Array.range (n * i.size)).map (C[· % C.size]!)) = Z.toArray := by
    intro C hC
    apply Array.ext'
    simp only [Array.toList_map, Array.toList_range]
    simp only [Z]
    apply List.map_congr_left
    intro k hk
    rw [List.mem_range] at hk
    rcases hC with hC | hC
    · omega
    · subst hC
      rw [hzs]
      have hlt : k % i.size < zv.cells.size := by rw [hzs]; exact Nat.mod_lt _ hsz
      rw [getElem!_pos zv.cells _ hlt]
      simp [hlt]
  have hrun : (Instr.buildSlice t n vs.toArray).run P w = .ok (.slice (some ⟨w.heap.size, 0, none⟩) n n) (w.alloc (.cells D.toArray elem)) := by
    have hnb : ¬ (n * i.size > 2 ^ 24) := by rw [hw] at hbig; omega
    have hfl' : Instr.fill (fun j => some (j * i.size, i.size)) Z.toArray vs = some D.toArray := by rw [← hw]; exact hfl
    have hZ1 := hZa #[]
    by_cases h0 : n * i.size = 0
    · have e1 := hZa #[] (.inl h0)
      simp only [h0] at e1
      simp at e1
      simp [Instr.buildSlice, run_underlying hu, sizeOf, typeInfo, hi, h0, newRow]
      rw [e1, hfl']
      rfl
    · have e1 := hZa zv.cells (.inr rfl)
      simp [Instr.buildSlice, run_underlying hu, sizeOf, typeInfo, hi, hnb, h0, newRow, hzr w]
      rw [e1, hfl']
      rfl
  obtain ⟨q1, q2⟩ := rowsOf_ok r.wid n l rows hrows
  obtain ⟨q3, q4⟩ := decRows_ok hxs
  have hxl : xs.length = n := q3.trans q1
  obtain ⟨m1, m2⟩ := hm.frzNew D elem
  refine ⟨_, _, _, hrun, ?_, m1, m2, SameC.alloc w _⟩
  have hrow : ∀ i' j d, i' < xs.length → nth (elN r xs i') j = some d → ∃ u, D[i' * r.wid + j]? = some u ∧ RA (Ctx.bare { x with fz := fun b o => if b = w.heap.size then D[o]? else x.fz b o }) d u := by
    intro i' j d hi' hd
    obtain ⟨y, hy⟩ := nth_ex (l := rows) (n := i') (by rw [q1]; omega)
    obtain ⟨xv, e1, e2⟩ := q4 i' y hy
    obtain ⟨e3, e4⟩ := q2 i' y hy
    have hy2 : RL x y ((D.drop (i' * r.wid)).take r.wid) := by rw [e3]; exact (hD.drop _).take _
    have hen := R.decW_ok e2 hy2
    have hel' : elN r xs i' = r.enc xv := by simp [elN, List.getD_eq_getElem?_getD, e1]
    have hj := elN_lt hd
    rw [hel'] at hd
    obtain ⟨u, f1, f2⟩ := hen.nth j d hd
    refine ⟨u, ?_, f2.plain (fun b o v e => m2.fz b o v e) (R.enc_plain _ _ _ (nth_mem hd))⟩
    rw [List.getElem?_take, if_pos hj, List.getElem?_drop] at f1
    exact f1
  have hnm : xs.length ≤ maxLen := by
    rw [hxl]
    have : n * 1 ≤ n * r.wid := Nat.mul_le_mul_left _ (by omega)
    simp only [maxLen]; omega
  have := lst_of_block (y := { x with fz := fun b o => if b = w.heap.size then D[o]? else x.fz b o }) (r := r) (l := xs) (C := D) (p := w.heap.size) (cap := n) (lit := true) (full := true) (nn := true) (by omega) hnm (fun _ => hxl.symm)
    (fun k u e => (if_pos rfl).trans e) hrow
  rw [hxl] at this
  exact this

theorem rep_len {α : Type} (x : α) : ∀ n, (rep x n).length = n
  | 0 => rfl
  | n + 1 => by simp [rep, rep_len x n]
theorem rep_getD {α : Type} (x d : α) : ∀ (n i : Nat), i < n → (rep x n).getD i d = x
  | 0, i, h => by omega
  | n + 1, 0, _ => rfl
  | n + 1, i + 1, h => by simpa [rep] using rep_getD x d n i (by omega)

theorem makeSliceA_ok {x : Ctx} {s : St} {w : World} (hm : MemOk x s.mem w) {t : TypeId} {la ca : A} {vl vc : Value} (hl : RA x la vl) (hc' : RA x ca vc) {res : Res} (h : makeSliceA P s t la ca = some res) (hc : res.chk ≠ some false) :
    res.bd = s.bd ∧ res.sd = s.sd ∧ ∃ v w' x', (Instr.makeSlice t vl vc).run P w = .ok v w' ∧ RV x' res.v v ∧ MemOk x' res.m w' ∧ Ext x x' ∧ Step x w w' := by
  unfold makeSliceA at h
  split at h
  case h_2 => simp at h
  rename_i elem ll lk l lc ck c hu
  obtain ⟨rfl, _⟩ := int_of hl
  obtain ⟨rfl, _⟩ := int_of hc'
  split at h
  case h_2 => simp at h
  rename_i r zl hel hzl
  obtain ⟨i, z, hi, hz, hzs, hsz, hby, hw⟩ := elemT_of hel
  split at h
  case h_2 => simp at h
  rename_i x0 hx0
  split at h
  case h_2 => simp at h
  rename_i chk hchk
  simp only [newStg, Option.some.injEq] at h; subst h
  have hb := litC_ok hchk hc
  simp only [Bool.and_eq_true, decide_eq_true_eq] at hb
  obtain ⟨⟨h0, h1⟩, h2⟩ := hb
  have h2 : c ≤ 1073741824 := h2
  obtain ⟨zv, hzr, hzl'⟩ := zeroT_run (P := P) (x := x) hzl
  have hzv : zv = z := by
    have := hzr w
    simp [zeroValue, typeInfo, hi, hz] at this
    exact this.symm
  subst hzv
  have hen := R.decW_ok hx0 hzl'
  have hr := run_make (P := P) w t elem i zv hu hi hz lk ck l c h0 h1 (by
    have : (i.bytes : Int) * c ≤ 65536 * 1073741824 := Int.mul_le_mul (by omega) (by omega) (by omega) (by omega)
    omega) (by omega)
  have hCl : (madeCells zv.cells (c.toNat * i.size)).toList.length = c.toNat * r.wid := by rw [Array.length_toList, size_madeCells, hw]
  obtain ⟨m1, m2⟩ := hm.addS (s := { blk := some (w.heap.size, c.toNat), na := none, n := l.toNat, w := r.wid, ver := 0, fc := 0 }) (g := { r := r, T := elem, l := rep x0 l.toNat, ver := 0, fzn := false, ffz := false, lit := ll, ub := 0 }) (OldSame.alloc w (.cells (madeCells zv.cells (c.toNat * i.size)) elem)) (fun p' c' e => by simp at e; omega)
    (by
      refine ⟨rfl, by simp [rep_len], rfl, fun e => by simp at e, fun p' c' e => ?_, fun _ => rfl, fun e => by simp at e, fun e => by simp at e⟩
      simp only [Option.some.injEq, Prod.mk.injEq] at e
      obtain ⟨rfl, rfl⟩ := e
      refine ⟨(madeCells zv.cells (c.toNat * i.size)).toList, heap_alloc_new w _, hCl, (show l.toNat ≤ c.toNat by omega), by simp only [maxLen]; omega, fun i' j d hi' hd => ?_, Nat.zero_le _, fun o ho => by simp at ho, fun o _ => hm.fz_new (Nat.le_refl _) o⟩
      have hi' : i' < l.toNat := hi'
      have hj : j < r.wid := elN_lt hd
      have hel' : elN r (rep x0 l.toNat) i' = r.enc x0 := by simp only [elN]; rw [rep_getD _ _ _ _ hi']
      rw [hel'] at hd
      obtain ⟨u, e1, e2⟩ := hen.nth j d hd
      refine ⟨u, ?_, e2.plain (fun _ _ _ e => e) (R.enc_plain _ _ _ (nth_mem hd))⟩
      have hlt : i' * r.wid + j < c.toNat * i.size := by
        have h3 : (i' + 1) * r.wid ≤ c.toNat * r.wid := Nat.mul_le_mul_right _ (by omega)
        rw [Nat.add_mul] at h3; rw [hw] at *; omega
      simp only [madeCells, Array.toList_map, Array.toList_range, List.getElem?_map, List.getElem?_range hlt, Option.map_some]
      have hj' : j < zv.cells.size := by rw [hzs, ← hw]; exact hj
      have hmod : (i' * r.wid + j) % zv.cells.size = j := by rw [hzs, ← hw, Nat.mul_comm, Nat.mul_add_mod, Nat.mod_eq_of_lt hj]
      rw [hmod, getElem!_pos zv.cells _ hj']
      simpa [hj'] using e1)
  refine ⟨rfl, rfl, _, _, _, hr, ?_, m1, m2, (OldSame.alloc w _).step hm rfl rfl rfl⟩
  have hsl := hm.sl
  refine .tip _ _ _ { blk := some (w.heap.size, c.toNat), na := none, n := l.toNat, w := r.wid, ver := 0, fc := 0 } _ (by rw [len_eq, ← hsl, nth_eq]; simp) (Nat.zero_le _) (fun _ => ?_) trivial
  simp [tipVal]

theorem lenA_ok {x : Ctx} {s : St} {w : World} (hm : MemR x s.mem w) {t ty : TypeId} {v : V} {vv : Value} (hv : RV x v vv) {res : Res} (h : lenA P s t v = some res) :
    res.m = s.mem ∧ res.bd = s.bd ∧ res.sd = s.sd ∧ ∃ u, (∀ w', (Builtin.len_ #[t] ty #[vv]).run P w' = .ok u w') ∧ RV x res.v u := by
  have fin : ∀ (lit : Bool) (n : Nat) (u : Value), n ≤ maxLen → u = goInt n → RV x (.w (.one (.int lit .i64 (n : Int)))) u := by
    intro lit n u hn hu
    obtain ⟨e1, e2⟩ := i64_nat hn
    rw [hu, e2]; exact .int _ _ _ _ e1
  unfold lenA at h
  split at h
  · rename_i e hu
    simp only [pureR, Option.some.injEq] at h; subst h
    have hv : RA x .nilsl vv := hv
    cases hv
    exact ⟨rfl, rfl, rfl, _, fun w' => run_len (P := P) (w := w') (ty := ty) hu none 0 0, fin true 0 _ (Nat.zero_le _) rfl⟩
  · rename_i e r lit _ _ l hu
    simp only [pureR, Option.some.injEq] at h; subst h
    obtain ⟨a, cap, news, rfl, SX, _⟩ := slOk_lst hm (show RA x (.lst _ _ _ _ l) vv from hv)
    exact ⟨rfl, rfl, rfl, _, fun w' => run_len (P := P) (w := w') (ty := ty) hu a l.length cap, fin lit l.length _ SX.hml rfl⟩
  · rename_i e hh ver hu
    split at h
    case h_2 => simp at h
    rename_i g hg
    simp only [pureR, Option.some.injEq] at h; subst h
    obtain ⟨si, hs, hok, rfl⟩ := tip_of hm (show RA x (.tip hh ver) vv from hv) hg
    obtain ⟨a, cap, news, e1, SX, _⟩ := slOk_tip hok
    rw [e1]
    exact ⟨rfl, rfl, rfl, _, fun w' => run_len (P := P) (w := w') (ty := ty) hu a g.l.length cap, fin g.lit g.l.length _ SX.hml rfl⟩
  · rename_i n e hu
    split at h
    case h_2 => simp at h
    rename_i hn
    simp only [Nat.ble_eq, most] at hn
    simp only [pureR, Option.some.injEq] at h; subst h
    exact ⟨rfl, rfl, rfl, _, fun w' => run_len_array (P := P) (w := w') (ty := ty) hu vv, fin true n _ (by simp only [maxLen]; omega) rfl⟩
  · simp at h

theorem convertA_ok {x : Ctx} {s : St} {w : World} (hm : MemR x s.mem w) {src dst : TypeId} {xa : A} {vx : Value} (hx : RA x xa vx) {res : Res} (h : convertA P s src dst xa = some res) :
    res.m = s.mem ∧ res.bd = s.bd ∧ res.sd = s.sd ∧ ∃ v, (convert src dst vx).run P w = .ok v w ∧ RV x res.v v := by
  unfold convertA at h
  split at h
  · rename_i k1 k hs hd
    split at h
    case h_2 => simp at h
    rename_i l k2 n
    simp only [pureR, Option.some.injEq] at h; subst h
    obtain ⟨rfl, _⟩ := int_of hx
    exact ⟨rfl, rfl, rfl, .int k (k.wrap n), by simp [convert, run_underlying hs, run_underlying hd, Conv.intToInt], .int _ _ _ _ (inR_wrap _ _)⟩
  · rename_i e hs hd
    split at h
    case h_2 => simp at h
    rename_i he
    split at h
    case h_2 => simp at h
    rename_i q hq
    simp only [pureR, Option.some.injEq] at h; subst h
    obtain ⟨a, cap, news, rfl, SX⟩ := sqOf_ok hm hx hq
    refine ⟨rfl, rfl, rfl, ?_⟩
    have hql : List Int := q.l
    have hnews : news = List.map (Value.int .u8) q.l := by
      apply List.ext_getElem?
      intro j
      have hlen : news.length = q.l.length := by rw [SX.hlen]; simp [R.wid]
      by_cases hj : j < q.l.length
      · obtain ⟨u, e1, e2⟩ := SX.hrow j 0 (.int false .u8 (q.l.getD j (0 : Int))) hj rfl
        simp only [R.wid, Nat.mul_one, Nat.add_zero] at e1
        rw [e1, (int_of e2).1]
        simp [List.getD_eq_getElem?_getD, hj]
      · rw [List.getElem?_eq_none (by omega), List.getElem?_eq_none (by simp; omega)]
    refine ⟨.string (strOf q.l), ?_, .str _ _⟩
    rw [run_convert_bytes_string w src dst e a q.l.length cap hs he hd]
    cases a with
    | none =>
      have := SX.hnone rfl
      rw [this]
      rfl
    | some p =>
      refine run_bytesToString w p q.l.length cap q.l ?_
      rw [← hnews]
      have := run_loadCells_list (P := P) (w := w) p news (SX.hcell p rfl)
      rw [SX.hlen] at this
      simpa [R.wid] using this
  · simp at h

/-- A store into an element. -/
theorem setStg_ok {x : Ctx} {m : Mem} {w : World} (hm : MemOk x m w) {h i o : Nat} {g : Stg} {si : SI} {p cap : Nat} (hg : nth m.stgs h = some g) (hs : nth x.S h = some si) (hb : si.blk = some (p, cap)) (hfz : g.fzn = false) (hi : i < g.l.length)
    {row l : List A} {vs : List Value} {y : g.r.den} (hput : putN (elN g.r g.l i) o l = some row) (hdec : g.r.decW row = some y) (hl : RL x l vs) (hne : l ≠ []) :
    ∃ C : List Value, w.heap[p]? = some (.cells C.toArray g.T (0, 0)) ∧ i * g.r.wid + o + vs.length ≤ C.length ∧
      MemOk x { m with stgs := setN m.stgs h { g with l := g.l.set i y } } (w.setRow p (C.take (i * g.r.wid + o) ++ vs ++ C.drop (i * g.r.wid + o + vs.length)).toArray) ∧
      Step x w (w.setRow p (C.take (i * g.r.wid + o) ++ vs ++ C.drop (i * g.r.wid + o + vs.length)).toArray) := by
  have hok := hm.stg h g si hg hs
  obtain ⟨C, c1, c2, c3, c4, c5, c6, c7, c8⟩ := hok.row p cap hb
  obtain ⟨e1, e2⟩ := putN_some hput
  have hlen := hl.length
  have hin := e2 hne
  rw [elN, R.enc_len] at hin
  have hown := hm.sown h si p cap hs hb
  have hn := hok.n
  have hbig : (i + 1) * g.r.wid ≤ C.length := by rw [c2]; exact Nat.mul_le_mul_right _ (by omega)
  rw [Nat.add_mul, Nat.one_mul] at hbig
  refine ⟨C, c1, by omega, ?_, ⟨rfl, rfl, rfl, by simp, fun k hk => setRow_other w p k _ (fun e => hk (e ▸ hown.1))⟩⟩
  have hrow := setRow_heap w p C.toArray (C.take (i * g.r.wid + o) ++ vs ++ C.drop (i * g.r.wid + o + vs.length)).toArray g.T (0, 0) c1
  obtain ⟨m1, m2⟩ := hm.setS (w' := w.setRow p (C.take (i * g.r.wid + o) ++ vs ++ C.drop (i * g.r.wid + o + vs.length)).toArray) (g' := { g with l := g.l.set i y }) (s' := si) (fz' := x.fz) hg hs (.refl si) (by simp)
    (fun k hk hne' => setRow_other w p k _ (fun e => hne' cap (e ▸ hb))) (fun _ _ _ e => e) (fun _ _ _ _ => rfl)
    (fun b' o' v' e => by
      have hbe : b' ≠ p := by
        rintro rfl
        rw [hm.nofz hg hs hb hfz o'] at e; simp at e
      rw [World.cell?_of_block (w := w) (a := ⟨b', o', none⟩) (setRow_other w p b' _ hbe)]
      exact hm.fz b' o' v' e) (fun p' c' e => .inl ⟨c', e⟩)
    (by
      refine ⟨hok.ver, by simp [hn], hok.wd, hok.nil, fun p' c' e => ?_, hok.fzn, hok.ffz, by simpa [setI] using hok.ub⟩
      rw [hb] at e
      simp only [Option.some.injEq, Prod.mk.injEq] at e
      obtain ⟨rfl, rfl⟩ := e
      have hfc : si.fc = 0 := hok.fzn hfz
      refine ⟨_, hrow, ?_, c3, c4, ?_, by rw [hfc]; exact Nat.zero_le _, fun o' ho => by rw [hfc] at ho; simp at ho, c8⟩
      · simp only [List.length_append, List.length_take, List.length_drop]
        rw [← c2]; omega
      · intro i' j d hi' hd
        have hj : j < g.r.wid := elN_lt hd
        show ∃ v, (C.take (i * g.r.wid + o) ++ vs ++ C.drop (i * g.r.wid + o + vs.length))[i' * g.r.wid + j]? = some v ∧ _
        -- a cell outside
        have hout : ∀ k, (k < i * g.r.wid + o ∨ i * g.r.wid + o + vs.length ≤ k) → (C.take (i * g.r.wid + o) ++ vs ++ C.drop (i * g.r.wid + o + vs.length))[k]? = C[k]? := by
          intro k hk
          rcases hk with hk | hk
          · rw [List.append_assoc, List.getElem?_append_left (by simp; omega), List.getElem?_take, if_pos hk]
          · rw [List.getElem?_append_right (by simp; omega), List.getElem?_drop]
            congr 1; simp; omega
        by_cases hii : i' = i
        · subst hii
          have hel : elN g.r (g.l.set i' y) i' = g.r.enc y := by simp [elN, List.getD_eq_getElem?_getD, hi]
          have hd : nth (elN g.r (g.l.set i' y) i') j = some d := hd
          rw [hel] at hd
          -- the row's cells
          have hR0 : RL x.bare (elN g.r g.l i') ((C.drop (i' * g.r.wid)).take g.r.wid) := by
            refine RL.of_nth (by rw [elN, R.enc_len]; simp; omega) fun k b hb' => ?_
            obtain ⟨u, f1, f2⟩ := c5 i' k b (by rw [hn]; exact hi) hb'
            exact ⟨u, by rw [List.getElem?_take, if_pos (elN_lt hb'), List.getElem?_drop]; exact f1, f2⟩
          have hR1 : RL x (elN g.r g.l i') ((C.drop (i' * g.r.wid)).take g.r.wid) := RL.plain (x := x.bare) (x' := x) (fun b o v (e : x.fz b o = some v) => e) (R.enc_plain _ _) hR0
          have hR2 : RL x row (((C.drop (i' * g.r.wid)).take g.r.wid).take o ++ vs ++ ((C.drop (i' * g.r.wid)).take g.r.wid).drop (o + vs.length)) := by
            rw [e1, hlen]
            exact ((hR1.take o).append hl).append (hR1.drop _)
          obtain ⟨u, f1, f2⟩ := (R.decW_ok hdec hR2).nth j d hd
          refine ⟨u, ?_, f2.plain (fun _ _ _ e => e) (R.enc_plain _ _ _ (nth_mem hd))⟩
          rw [← f1]
          have hL1 : (((C.drop (i' * g.r.wid)).take g.r.wid).take o).length = o := by simp; omega
          rcases Nat.lt_or_ge j o with h1 | h1
          · rw [hout _ (.inl (by omega)), List.append_assoc, List.getElem?_append_left (by rw [hL1]; exact h1), List.getElem?_take, if_pos h1, List.getElem?_take, if_pos hj, List.getElem?_drop]
          · rcases Nat.lt_or_ge j (o + vs.length) with h2 | h2
            · rw [List.append_assoc, List.getElem?_append_right (by simp; omega), List.getElem?_append_left (by simp; omega)]
              rw [List.append_assoc, List.getElem?_append_right (by rw [hL1]; exact h1), List.getElem?_append_left (by rw [hL1]; omega)]
              congr 1; simp; omega
            · rw [hout _ (.inr (by omega))]
              rw [List.getElem?_append_right (by rw [List.length_append, hL1]; exact h2), List.getElem?_drop, List.length_append, hL1, List.getElem?_take, if_pos (by omega), List.getElem?_drop]
              congr 1; omega
        · have hel : elN g.r (g.l.set i y) i' = elN g.r g.l i' := by
            simp only [elN, List.getD_eq_getElem?_getD]
            rw [List.getElem?_set_ne (Ne.symm hii)]
          have hd : nth (elN g.r (g.l.set i y) i') j = some d := hd
          rw [hel] at hd
          obtain ⟨u, f1, f2⟩ := c5 i' j d hi' hd
          refine ⟨u, ?_, f2.plain (fun _ _ _ e => e) (R.enc_plain _ _ _ (nth_mem hd))⟩
          rw [hout]
          · exact f1
          · rcases Nat.lt_or_ge i' i with h1 | h1
            · left
              have : (i' + 1) * g.r.wid ≤ i * g.r.wid := Nat.mul_le_mul_right _ h1
              rw [Nat.add_mul] at this; omega
            · right
              have : (i + 1) * g.r.wid ≤ i' * g.r.wid := Nat.mul_le_mul_right _ (by omega)
              rw [Nat.add_mul] at this; omega)
  have hxx : ({ x with S := setN x.S h si, fz := x.fz } : Ctx) = x := by
    have := setN_same hs
    rw [this]
  rw [hxx] at m1
  exact m1
end Go.S3
