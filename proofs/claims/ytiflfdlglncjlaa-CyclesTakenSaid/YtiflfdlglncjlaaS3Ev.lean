/-
  Soundness of the symbolic executor, part 4: every operation. Conditions: none (lemmas).
-/
import Derived.Test.YtiflfdlglncjlaaS3App
set_option linter.unusedSimpArgs false
set_option linter.unusedVariables false
namespace Go.S3

section
variable {P : Program}
theorem aggT_run {w : World} {t : TypeId} {b : Bool} (h : aggT P t = some b) : (isAgg t).run P w = .ok b w := by
  unfold aggT at h
  split at h
  · rename_i d hd
    simp only [Option.some.injEq] at h; subst h
    simp [isAgg, run_underlying hd]
  · rename_i d n hd
    simp only [Option.some.injEq] at h; subst h
    simp [isAgg, run_underlying hd]
  · rename_i d hd h1 h2
    simp only [Option.some.injEq] at h; subst h
    have hu := run_underlying (P := P) (w := w) h2
    cases d <;> first | (exact absurd h2 (by assumption)) | (exact absurd h2 (by solve_by_elim)) | simp [isAgg, hu]
  · simp at h
theorem sizeT_run {w : World} {t : TypeId} {n : Nat} (h : sizeT P t = some n) : (sizeOf t).run P w = .ok n w := by
  simp only [sizeT, Option.map_eq_some_iff] at h
  obtain ⟨i, h1, h2⟩ := h
  simp [sizeOf, typeInfo, h1, h2]
theorem zeroT_run {x : Ctx} {t : TypeId} {l : List A} (h : zeroT P t = some l) : ∃ z : Value, (∀ w, (zeroValue t).run P w = .ok z w) ∧ RL x l z.cells.toList := by
  unfold zeroT at h
  split at h
  · rename_i z hz
    rw [Option.bind_eq_some_iff] at hz h
    obtain ⟨i, h1, h2⟩ := hz
    obtain ⟨y, h3, h4⟩ := h
    exact ⟨z, fun w => by simp [zeroValue, typeInfo, h1, h2], W.cells_ok (ofValue_ok x h3) h4⟩
  · simp at h

theorem partT_ok {x : Ctx} {t : TypeId} {l : List A} {off : Nat} {y : W} {C : List Value} (h : partT P t l off = some y) (hl : RL x l C) :
    ∃ v, (∀ w, (part t C.toArray off).run P w = .ok v w) ∧ RW x y v := by
  unfold partT at h
  split at h
  · rename_i n hg hn
    rw [Option.map_eq_some_iff] at h
    obtain ⟨r, h1, h2⟩ := h
    subst h2
    obtain ⟨h3, h4⟩ := takeN_some _ _ _ h1
    rw [dropN_eq] at h3 h4
    refine ⟨.agg ((C.drop off).take n).toArray, fun w => by simp [part, aggT_run hg, sizeT_run hn], (C.drop off).take n, rfl, ?_⟩
    subst h3; exact (hl.drop off).take n
  · rename_i n hg hn
    rw [Option.map_eq_some_iff] at h
    obtain ⟨r, h1, h2⟩ := h
    subst h2
    obtain ⟨v, h3, h4⟩ := hl.nth _ _ h1
    exact ⟨v, fun w => by simp [part, aggT_run hg, h3], h4⟩
  · simp at h

/-- What can be read through a pointer. -/
theorem cellsAt_ok {x : Ctx} {m : Mem} {w : World} (h : MemR x m w) {p : A} {v : Value} (hp : RA x p v) {l : List A} (hl : cellsAt m p = some l) :
    ∃ q o, v = .pointer (some ⟨q, o, none⟩) ∧ ∀ j a, nth l j = some a → ∃ u, w.cell? ⟨q, o + j, none⟩ = some u ∧ RA x a u := by
  cases p with
  | loc b o =>
    simp only [cellsAt] at hl
    cases hp with
    | loc _ _ _ q hq =>
      rw [Option.map_eq_some_iff] at hl
      obtain ⟨c, h1, h2⟩ := hl
      subst h2
      obtain ⟨q', C, T, h0, h3, h4⟩ := h.box b c h1
      have : q' = q := by rw [hq] at h0; simpa using h0.symm
      subst this
      refine ⟨q', o, rfl, fun j a ha => ?_⟩
      rw [dropN_eq, nth_eq, List.getElem?_drop, ← nth_eq] at ha
      obtain ⟨u, h5, h6⟩ := h4.nth _ _ ha
      exact ⟨u, by rw [cell_of_heap h3]; exact h5, h6⟩
  | fp l' =>
    simp only [cellsAt, Option.some.injEq] at hl
    subst hl
    cases hp with
    | fp _ _ q o c hf hr =>
      refine ⟨q, o, rfl, fun j a ha => ⟨c j, h.fz _ _ _ (hf j a ha), (hr j a ha).mono ⟨rfl, ?_, ?_, fun _ _ _ e => e, fun _ _ _ e => .inl e⟩⟩⟩
      · intro b p e; simp [Ctx.bare, nth_nil] at e
      · intro b p e; simp [Ctx.bare, nth_nil] at e
  | sp hh ver i o =>
    simp only [cellsAt] at hl
    split at hl
    · rename_i g hg
      simp only [Option.some.injEq] at hl; subst hl
      obtain ⟨s, q, cap, hs, hok, hb, h0, hi, rfl⟩ := sp_of h hp hg
      obtain ⟨C, c1, c2, c3, c4, c5, c6, c7, c8⟩ := hok.row q cap hb
      refine ⟨q, _, rfl, fun j a ha => ?_⟩
      rw [dropN_eq, nth_eq, List.getElem?_drop, ← nth_eq] at ha
      obtain ⟨u, e1, e2⟩ := c5 i.toNat (o + j) a (by rw [hok.n]; exact hi) ha
      refine ⟨u, by rw [cell_of_heap c1, Nat.add_assoc]; exact e1, e2.plain (fun _ _ _ e => e) (R.enc_plain _ _ _ (nth_mem ha))⟩
    · simp at hl
  | _ => simp [cellsAt] at hl

theorem loadA_ok {x : Ctx} {m : Mem} {w : World} (h : MemR x m w) {t : TypeId} {p : A} {v : Value} (hp : RA x p v) {y : W} (hl : loadA P m t p = some y) :
    ∃ u, (∀ w', OldSame w w' → (Instr.loadAt t v).run P w' = .ok u w') ∧ RW x y u := by
  unfold loadA at hl
  split at hl
  · rename_i l hc
    obtain ⟨q, o, rfl, hcell⟩ := cellsAt_ok h hp hc
    unfold partT at hl
    split at hl
    · rename_i n hg hn
      rw [Option.map_eq_some_iff] at hl
      obtain ⟨r, h1, h2⟩ := hl
      subst h2
      obtain ⟨h3, h4⟩ := takeN_some _ _ _ h1
      simp only [dropN] at h3 h4
      have hex : ∀ j, j < n → ∃ u, w.cell? ⟨q, o + j, none⟩ = some u ∧ ∀ a, nth l j = some a → RA x a u := by
        intro j hj
        have : ∃ a, nth l j = some a := by rw [nth_eq]; exact ⟨_, List.getElem?_eq_getElem (by omega)⟩
        obtain ⟨a, ha⟩ := this
        obtain ⟨u, h5, h6⟩ := hcell j a ha
        exact ⟨u, h5, fun a' ha' => by rw [ha] at ha'; simp only [Option.some.injEq] at ha'; exact ha' ▸ h6⟩
      let f : Nat → Value := fun j => (w.cell? ⟨q, o + j, none⟩).getD undef
      have hf : ∀ j, j < n → w.cell? ⟨q, o + j, none⟩ = some (f j) := fun j hj => by obtain ⟨u, h5, _⟩ := hex j hj; simp [f, h5]
      have hrun := fun (w' : World) (hw' : OldSame w w') => run_loadCells (P := P) w' ⟨q, o, none⟩ n f (fun j hj => by rw [add_none]; exact hw'.cell (hf j hj))
      refine ⟨.agg ((List.range n).map f).toArray, fun w' hw' => by simp [Instr.loadAt, Instr.sureAddr, loadVar, aggT_run hg, sizeT_run hn, hrun w' hw'], _, rfl, ?_⟩
      subst h3
      refine RL.of_nth (by simp; omega) fun j a ha => ?_
      have hj : j < n := by have := nth_lt ha; simp at this; omega
      refine ⟨f j, by simp [hj], ?_⟩
      obtain ⟨u, h5, h6⟩ := hex j hj
      have : f j = u := by simp [f, h5]
      rw [this]
      refine h6 a ?_
      rw [nth_eq, List.getElem?_take, if_pos hj] at ha
      rw [nth_eq]; exact ha
    · rename_i n hg hn
      rw [Option.map_eq_some_iff] at hl
      obtain ⟨r, h1, h2⟩ := hl
      subst h2
      obtain ⟨u, h3, h4⟩ := hcell 0 r h1
      exact ⟨u, fun w' hw' => by simp [Instr.loadAt, Instr.sureAddr, loadVar, aggT_run hg, go_sem, show w'.cell? ⟨q, o, none⟩ = some u from hw'.cell h3], h4⟩
    · simp at hl
  · simp at hl

/-- What an operation that is no call leaves: a value and a world. -/
def Gives (P : Program) (a : Act) (o : Oper) (w : World) (v : Value) (w' : World) : Prop :=
  (execOp a.eval o).run P w = .ok (.value v) w' ∨ ((execOp a.eval o).run P w = .ok .skip w' ∧ v = undef)

theorem fieldOf_some {t : TypeId} {f : Nat} {fd : Field} (h : fieldOf P t f = some fd) : ∃ fs, P.underlying t = some (.struct fs) ∧ fs[f]? = some fd := by
  unfold fieldOf at h
  split at h
  · exact ⟨_, by assumption, h⟩
  · simp at h

theorem moveP_ok {x : Ctx} {m : Mem} {w : World} (hm : MemR x m w) {p r : A} {v : Value} {n : Nat} (hp : RA x p v) (h : moveP m p n = some r) : ∃ q o : Nat, v = .pointer (some ⟨q, o, none⟩) ∧ RA x r (.pointer (some ⟨q, o + n, none⟩)) := by
  cases p with
  | loc b o =>
    simp only [moveP, Option.some.injEq] at h; subst h
    cases hp with
    | loc _ b o q hq => exact ⟨q, o, rfl, .loc _ _ _ _ hq⟩
  | fp l =>
    simp only [moveP, Option.some.injEq] at h; subst h
    cases hp with
    | fp _ _ q o c hf hr =>
      refine ⟨q, o, rfl, .fp _ _ _ _ (fun j => c (n + j)) (fun j a ha => ?_) (fun j a ha => ?_)⟩
      · rw [dropN_eq, nth_eq, List.getElem?_drop, ← nth_eq] at ha
        rw [Nat.add_assoc]; exact hf _ _ ha
      · rw [dropN_eq, nth_eq, List.getElem?_drop, ← nth_eq] at ha
        exact hr _ _ ha
  | sp hh ver i o =>
    simp only [moveP] at h
    split at h
    · rename_i g hg
      simp only [Option.some.injEq] at h; subst h
      obtain ⟨s, q, cap, hs, hok, hb, h0, hi, rfl⟩ := sp_of hm hp hg
      obtain ⟨hg1, hg2⟩ := stgOf_some hg
      refine ⟨q, _, rfl, .sp _ _ _ _ _ s _ hs (by rw [hok.ver, hg2]; exact Nat.le_refl _) (fun _ => ⟨q, cap, hb, h0, by rw [hok.n]; exact hi, ?_⟩) trivial⟩
      rw [hok.wd, Nat.add_assoc]
    · simp at h
  | _ => simp [moveP] at h

/-! ### values that are built -/
theorem foldl_set (l : List Value) : ∀ (k off : Nat) (C : List Value), off + k + l.length ≤ C.length →
    (l.zipIdx k).foldl (fun cs p => cs.setIfInBounds (off + p.2) p.1) C.toArray = (C.take (off + k) ++ l ++ C.drop (off + k + l.length)).toArray := by
  induction l with
  | nil => intro k off C _; simp
  | cons v l ih =>
    intro k off C hk
    simp only [List.length_cons] at hk
    simp only [List.zipIdx_cons, List.foldl_cons]
    rw [List.setIfInBounds_toArray, ih (k + 1) off (C.set (off + k) v) (by simp; omega)]
    congr 1
    have hlt : off + k < C.length := by omega
    have e1 : (C.set (off + k) v).take (off + (k + 1)) = C.take (off + k) ++ [v] := by
      rw [← Nat.add_assoc, List.take_succ_eq_append_getElem (by simpa using hlt)]
      simp [List.take_set_of_le]
    rw [e1, List.drop_set_of_lt (by omega)]
    simp [Nat.add_assoc, Nat.add_comm 1]
theorem fillA_ok {x : Ctx} (pl : Nat → Option (Nat × Nat)) : ∀ (ps : List (Nat × Option (List A))) (vs : List (Nat × Value)) (l r : List A) (C : List Value),
    ps.map (·.1) = vs.map (·.1) → (∀ i c v, nth ps i = some c → nth vs i = some v → ∀ k, c.2 = some k → RL x k v.2.cells.toList) → RL x l C → fillA pl l ps = some r →
    ∃ D : List Value, Instr.fill pl C.toArray vs = some D.toArray ∧ RL x r D
  | [], [], l, r, C, _, _, hl, h => by
    simp only [fillA, Option.some.injEq] at h; subst h
    exact ⟨C, rfl, hl⟩
  | (i, k) :: ps, (i', v) :: vs, l, r, C, hi, hv, hl, h => by
    simp only [List.map_cons, List.cons.injEq] at hi
    obtain ⟨rfl, hi⟩ := hi
    simp only [fillA] at h
    split at h
    · rename_i off size l' hpl
      split at h
      · simp at h
      · rename_i hbeq
        simp only [Bool.and_eq_true, Nat.beq_eq, Nat.blt_eq] at hbeq
        split at h
        · rename_i c hput
          have hk := hv 0 _ _ rfl rfl l' rfl
          have hkl := hk.length
          have hll := hl.length
          rw [len_eq] at hbeq
          obtain ⟨e1, e2⟩ := putN_some hput
          have hne : l' ≠ [] := by rintro rfl; simp at hbeq; omega
          have hin := e2 hne
          obtain ⟨D, h1, h2⟩ := fillA_ok pl ps vs c r (C.take off ++ v.cells.toList ++ C.drop (off + v.cells.toList.length)) hi (fun j c v h1 h2 => hv (j + 1) c v h1 h2)
            (by rw [e1, hkl]; exact ((hl.take off).append hk).append (hl.drop _)) h
          refine ⟨D, ?_, h2⟩
          rw [← h1]
          have hsz : v.cells.size = size := by rw [← hbeq.1, hkl]; simp
          have hfit : off + v.cells.size ≤ C.length := by rw [hkl] at hin; simp at hin; omega
          simp only [Instr.fill, hpl]
          rw [if_neg (by simp; exact ⟨hsz, hfit⟩)]
          have := foldl_set v.cells.toList 0 off C (by simpa using hfit)
          simp only [Nat.add_zero] at this
          rw [← this, ← Array.foldl_toList]
          simp
        · simp at h
    · simp at h
  | [], _ :: _, _, _, _, h, _, _, _ => by simp at h
  | _ :: _, [], _, _, _, h, _, _, _ => by simp at h
end
end Go.S3
