/-
  Soundness of the symbolic executor, part 5: every operation. Conditions: none (lemmas).
-/
import Derived.Test.YtiflfdlglncjlaaS3Ev
set_option linter.unusedSimpArgs false
set_option linter.unusedVariables false
namespace Go.S3
variable {P : Program}

theorem rowsOf_ok (n : Nat) : ∀ (m : Nat) (l : List A) (rows : List (List A)), rowsOf n m l = some rows →
    rows.length = m ∧ ∀ j y, nth rows j = some y → y = (l.drop (j * n)).take n ∧ y.length = n
  | 0, l, rows, h => by
    simp only [rowsOf, Option.some.injEq] at h; subst h
    exact ⟨rfl, fun j y e => by cases j <;> simp [nth] at e⟩
  | m + 1, l, rows, h => by
    simp only [rowsOf] at h
    split at h
    · simp at h
    · rename_i y hy
      split at h
      · rename_i r hr
        simp only [Option.some.injEq] at h; subst h
        obtain ⟨h1, h2⟩ := rowsOf_ok n m _ _ hr
        obtain ⟨h3, h4⟩ := takeN_some _ _ _ hy
        refine ⟨by simp [h1], fun j y' e => ?_⟩
        cases j with
        | zero => simp only [nth, Option.some.injEq] at e; subst e; simp [h3]; omega
        | succ j =>
          simp only [nth] at e
          obtain ⟨h5, h6⟩ := h2 j y' e
          refine ⟨?_, h6⟩
          rw [h5, dropN_eq, List.drop_drop]
          congr 2
          rw [Nat.succ_mul, Nat.add_comm]
      · simp at h
theorem pickL_ok {nb : Nat} {x : Ctx} (hx : ∀ c, Cut nb tip1 c x x) {i : Int} : ∀ (rows : List (List A)) (k : Nat) (z : List A) (R : List Value),
    pickL nb i k rows = some z → (k : Int) ≤ i → i < (k : Int) + rows.length → (∀ y, nth rows (i - k).toNat = some y → RL x y R) → RL x z R
  | [], k, z, R, h, _, _, _ => by simp [pickL] at h
  | [y], k, z, R, h, h1, h2, h3 => by
    simp only [pickL, Option.some.injEq] at h; subst h
    simp at h2
    exact h3 _ (by have : (i - k).toNat = 0 := by omega
                   rw [this]; rfl)
  | y :: y' :: r, k, z, R, h, h1, h2, h3 => by
    simp only [pickL] at h
    split at h
    · rename_i z' hz
      refine mL_ok (hx _) h ?_
      by_cases hi : i = k
      · have : (i == (k : Int)) = true := by simp [hi]
        rw [this]
        exact h3 _ (by have : (i - k).toNat = 0 := by omega
                       rw [this]; rfl)
      · have : (i == (k : Int)) = false := by simp [hi]
        rw [this]
        refine pickL_ok hx (y' :: r) (k + 1) z' R hz (by omega) (by simp at h2 ⊢; omega) fun q hq => h3 q ?_
        have e : (i - k).toNat = (i - ((k + 1 : Nat) : Int)).toNat + 1 := by omega
        rw [e]; exact hq
    · simp at h

theorem part_row {x : Ctx} {t : TypeId} {g : Bool} {n off : Nat} {y : List A} {C : List Value} (hg : aggT P t = some g) (hn : sizeT P t = some n)
    (hl : RL x y ((C.drop off).take n)) (hlen : y.length = n) :
    (g = true → ∃ v, (∀ w, (part t C.toArray off).run P w = .ok v w) ∧ RW x (.agg y) v) ∧ (g = false → ∀ a, y = [a] → ∃ v, (∀ w, (part t C.toArray off).run P w = .ok v w) ∧ RA x a v) := by
  refine ⟨?_, ?_⟩
  · rintro rfl
    exact ⟨.agg ((C.drop off).take n).toArray, fun w => by simp [part, aggT_run hg, sizeT_run hn], _, rfl, hl⟩
  · rintro rfl a rfl
    simp at hlen
    subst hlen
    obtain ⟨v, h1, h2⟩ := hl.nth 0 a rfl
    simp at h1
    exact ⟨v, fun w => by simp [part, aggT_run hg, h1], h2⟩

theorem indexA_ok {x : Ctx} {s : St} {t : TypeId} {l : List A} {i : A} {r : Res} {va vi : Value} (ha : RW x (.agg l) va) (hi : RA x i vi)
    (h : indexA P s t l i = some r) (hc : r.chk ≠ some false) : r.m = s.mem ∧ r.bd = s.bd ∧ r.sd = s.sd ∧ ∃ v, (∀ w, (Instr.index t va vi).run P w = .ok v w) ∧ RV x r.v v := by
  unfold indexA at h
  obtain ⟨C, rfl, hC⟩ := ha
  have hcut : ∀ c, Cut (len s.mem.boxes) tip1 c x x := fun c => Cut.refl _ c x
  split at h
  · rename_i m elem lit ik iv hu
    obtain ⟨rfl, hir⟩ := int_of hi
    split at h
    · rename_i g n hg hn
      split at h
      · simp at h
      · rename_i rows hrows
        obtain ⟨hlen, hrow⟩ := rowsOf_ok n m l rows hrows
        have key : ∀ y : List A, 0 ≤ iv → iv < (m : Int) → RL x y ((C.drop (iv.toNat * n)).take n) → y.length = n →
            (g = true → ∃ v, (∀ w, (Instr.index t (.agg C.toArray) (.int ik iv)).run P w = .ok v w) ∧ RW x (.agg y) v) ∧
            (g = false → ∀ a, y = [a] → ∃ v, (∀ w, (Instr.index t (.agg C.toArray) (.int ik iv)).run P w = .ok v w) ∧ RA x a v) := by
          intro y h0 h1 hy hyl
          have hr : ∀ v, (∀ w, (part elem C.toArray (iv.toNat * n)).run P w = .ok v w) → ∀ w, (Instr.index t (.agg C.toArray) (.int ik iv)).run P w = .ok v w := by
            intro v hv w
            simp [Instr.index, asIntOf, run_underlying hu, h0, h1, sizeT_run hn, hv w]
          obtain ⟨p1, p2⟩ := part_row (P := P) (off := iv.toNat * n) hg hn hy hyl
          exact ⟨fun e => let ⟨v, q1, q2⟩ := p1 e; ⟨v, hr v q1, q2⟩, fun e a ea => let ⟨v, q1, q2⟩ := p2 e a ea; ⟨v, hr v q1, q2⟩⟩
        have rowRL : ∀ y, nth rows iv.toNat = some y → RL x y ((C.drop (iv.toNat * n)).take n) ∧ y.length = n := by
          intro y hy
          obtain ⟨e1, e2⟩ := hrow _ _ hy
          exact ⟨e1 ▸ (hC.drop _).take _, e2⟩
        split at h
        · split at h
          · simp at h
          · rename_i hb
            simp only [decide_eq_true_eq] at hb
            split at h
            · simp at h
            · rename_i y hy
              obtain ⟨q1, q2⟩ := rowRL y hy
              obtain ⟨k1, k2⟩ := key y hb.1 hb.2 q1 q2
              split at h
              · simp only [valR, Option.some.injEq] at h; subst h
                exact ⟨rfl, rfl, rfl, k1 rfl⟩
              · simp only [valR, Option.some.injEq] at h; subst h
                exact ⟨rfl, rfl, rfl, k2 rfl _ rfl⟩
              · simp at h
        · split at h
          · simp at h
          · rename_i y hy
            have hb : ∀ {b : Bool}, some b ≠ some false → b = true := by intro b; cases b <;> simp
            split at h
            · simp only [Option.some.injEq] at h; subst h
              have hb' := hb hc
              simp only [decide_eq_true_eq] at hb'
              have hex : ∃ y', nth rows iv.toNat = some y' := by rw [nth_eq]; exact ⟨_, List.getElem?_eq_getElem (by omega)⟩
              obtain ⟨y', hy'⟩ := hex
              obtain ⟨q1, q2⟩ := rowRL y' hy'
              have hz := pickL_ok hcut rows 0 y _ hy (by simpa using hb'.1) (by simp [hlen, hb'.2]) (fun q hq => by
                simp only [Int.natCast_zero, Int.sub_zero] at hq; exact (rowRL q hq).1)
              have hzl : y.length = n := by rw [hz.length, ← q1.length, q2]
              exact ⟨rfl, rfl, rfl, (key y hb'.1 hb'.2 hz hzl).1 rfl⟩
            · simp only [Option.some.injEq] at h; subst h
              have hb' := hb hc
              simp only [decide_eq_true_eq] at hb'
              have hex : ∃ y', nth rows iv.toNat = some y' := by rw [nth_eq]; exact ⟨_, List.getElem?_eq_getElem (by omega)⟩
              obtain ⟨y', hy'⟩ := hex
              obtain ⟨q1, q2⟩ := rowRL y' hy'
              have hz := pickL_ok hcut rows 0 _ _ hy (by simpa using hb'.1) (by simp [hlen, hb'.2]) (fun q hq => by
                simp only [Int.natCast_zero, Int.sub_zero] at hq; exact (rowRL q hq).1)
              have hzl := hz.length
              rw [← q1.length, q2] at hzl
              exact ⟨rfl, rfl, rfl, (key _ hb'.1 hb'.2 hz hzl).2 rfl _ rfl⟩
            · simp at h
    · simp at h
  · simp at h

theorem RWs.nth {x : Ctx} : ∀ {l : List W} {vs : List Value}, RWs x l vs → ∀ (j : Nat) (a : W), nth l j = some a → ∃ v, vs[j]? = some v ∧ RW x a v
  | [], [], _, j, a, e => by simp [S3.nth] at e
  | b :: l, v :: r, h, 0, a, e => by simp [S3.nth] at e; subst e; exact ⟨v, by simp, h.1⟩
  | b :: l, v :: r, h, j + 1, a, e => by simp only [S3.nth] at e; simpa using RWs.nth h.2 j a e
  | [], _ :: _, h, _, _, _ => h.elim
  | _ :: _, [], h, _, _, _ => h.elim

theorem opdsC_fst (s : St) : ∀ l : List (Nat × Operand), (opdsC s l).map (·.1) = l.map (·.1)
  | [] => rfl
  | (i, x) :: l => by simp [opdsC, opdsC_fst s l]
theorem opdsC_nth {x : Ctx} {s : St} {a : Act} (hf : RF x s.slots a.tmps) : ∀ (l : List (Nat × Operand)) (i : Nat) (c : Nat × Option (List A)) (v : Nat × Value), nth (opdsC s l) i = some c →
    nth (l.map fun p => (p.1, a.eval p.2)) i = some v → ∀ k, c.2 = some k → RL x k v.2.cells.toList
  | [], i, c, v, h, _ => by simp [opdsC, nth] at h
  | (j, y) :: l, 0, c, v, h, h' => by
    simp only [opdsC, nth, Option.some.injEq] at h
    simp only [List.map_cons, nth, Option.some.injEq] at h'
    subst h; subst h'
    intro k hk
    exact opdC_ok hf hk
  | (j, y) :: l, i + 1, c, v, h, h' => by
    simp only [opdsC, nth] at h
    simp only [List.map_cons, nth] at h'
    exact opdsC_nth hf l i c v h h'

theorem mapM_run {α β : Type} {w : World} (g : α → Sem β) (f : α → β) : ∀ (l : List α), (∀ a ∈ l, (g a).run P w = .ok (f a) w) → (l.mapM g).run P w = .ok (l.map f) w
  | [], _ => by simp
  | a :: l, h => by
    have ih := mapM_run (w := w) g f l (fun b hb => h b (by simp [hb]))
    simp [List.mapM_cons, h a (by simp), ih]
theorem sizesL_run {w : World} : ∀ (l : List Field) (r : List (Nat × Nat)), sizesL P l = some r →
    (l.mapM (fun f => Prod.mk f.offset <$> sizeOf f.type)).run P w = .ok r w
  | [], r, h => by simp only [sizesL, Option.some.injEq] at h; subst h; simp
  | f :: l, r, h => by
    simp only [sizesL] at h
    split at h
    · rename_i n r' hn hr
      simp only [Option.some.injEq] at h; subst h
      have ih := sizesL_run (w := w) l r' hr
      rw [List.mapM_cons]
      simp only [Sem.run_bind, Sem.run_map, sizeT_run hn, Result.andThen_ok, ih, Sem.run_pure]
    · simp at h
/-- build -/
theorem build_ok {x : Ctx} {s : St} {a : Act} (hf : RF x s.slots a.tmps) {t : TypeId} {parts : Array (Nat × Operand)} {z l : List A} {pl : Nat → Option (Nat × Nat)}
    (hz : zeroT P t = some z) (hpl : placesOf P t = some pl) (hfill : fillA pl z (opdsC s parts.toList) = some l) :
    ∃ v, (∀ w, (Instr.build t (parts.map fun p => (p.1, a.eval p.2))).run P w = .ok v w) ∧ RW x (.agg l) v := by
  obtain ⟨zv, hzr, hzl⟩ := zeroT_run (P := P) (x := x) hz
  have hfst := opdsC_fst s parts.toList
  have hn := opdsC_nth hf parts.toList
  unfold placesOf at hpl
  split at hpl
  · rename_i fs hu
    split at hpl
    · rename_i L hL
      simp only [Option.some.injEq] at hpl
      subst hpl
      obtain ⟨D, h1, h2⟩ := fillA_ok (x := x) (nth L) _ (parts.toList.map fun p => (p.1, a.eval p.2)) z l zv.cells.toList (by rw [hfst]; simp [Function.comp_def]) hn hzl hfill
      have hrun := fun w => sizesL_run (P := P) (w := w) fs.toList L hL
      have hpl : nth L = fun i => L.toArray[i]? := by funext i; rw [nth_eq]; simp
      rw [hpl] at h1
      refine ⟨.agg D.toArray, fun w => ?_, D, rfl, h2⟩
      simp at h1
      simp [Instr.build, hzr, run_underlying hu, Array.mapM_eq_mapM_toList, hrun, h1]
    · simp at hpl
  · rename_i m elem hu
    split at hpl
    · rename_i n hn'
      simp only [Option.some.injEq] at hpl
      subst hpl
      obtain ⟨D, h1, h2⟩ := fillA_ok (x := x) (fun i => some (i * n, n)) _ (parts.toList.map fun p => (p.1, a.eval p.2)) z l zv.cells.toList (by rw [hfst]; simp [Function.comp_def]) hn hzl hfill
      refine ⟨.agg D.toArray, fun w => ?_, D, rfl, h2⟩
      simp at h1
      simp [Instr.build, hzr, run_underlying hu, sizeT_run hn', h1]
    · simp at hpl
  · simp at hpl
end Go.S3
