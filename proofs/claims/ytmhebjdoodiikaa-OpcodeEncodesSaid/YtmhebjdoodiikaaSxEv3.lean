/-
  Soundness of the symbolic executor, part 6: every operation that is no call. Conditions: none (lemmas).
-/
import Derived.Test.YtmhebjdoodiikaaSxEq
namespace Go.Sx

/-- What is shown of an operation: it goes through, its value and the memory are as said. -/
def Sound1 (P : Program) (x : Ctx) (a : Act) (o : Oper) (w : World) (r : Res) : Prop :=
  ∃ v w' x', Gives P a o w v w' ∧ RV x' r.v v ∧ MemOk x' r.m w' ∧ Ext [] x x' ∧ Step x w w'

/-- The operation leaves all as it is, and its value is one and the same wherever the old blocks are as they are. -/
def Still1 (P : Program) (x : Ctx) (s : St) (a : Act) (o : Oper) (w : World) (r : Res) : Prop :=
  r.m = s.mem ∧ r.bd = s.bd ∧ r.sd = s.sd ∧ ∃ v, (∀ w', OldSame w w' → (execOp a.eval o).run P w' = .ok (.value v) w') ∧ RV x r.v v
theorem Still1.sound {P : Program} {x : Ctx} {s : St} {a : Act} {o : Oper} {w : World} {r : Res} (hm : MemOk x s.mem w) (h : Still1 P x s a o w r) : Sound1 P x a o w r := by
  obtain ⟨hr, _, _, v, h, hv⟩ := h
  exact ⟨v, w, x, .inl (h w (OldSame.refl w)), hv, hr ▸ hm, Ext.refl x, Step.refl x w⟩
theorem newBox_sound {P : Program} {x : Ctx} {s : St} {a : Act} {w : World} {o : Oper} (hm : MemOk x s.mem w) {l : List A} {C : List Value} {T : TypeId} (hl : RL x l C)
    (h : (execOp a.eval o).run P w = .ok (.value (.pointer (some ⟨w.heap.size, 0, none⟩))) (w.alloc (.cells C.toArray T))) : Sound1 P x a o w (newBox s l) := by
  obtain ⟨h1, h2, h3⟩ := newBox_ok hm T hl
  exact ⟨_, _, _, .inl h, h3, h1, ext_box x _, h2⟩

set_option maxHeartbeats 1000000 in
theorem evOp_still {E : Env} {x : Ctx} {s : St} {a : Act} {w : World} {o : Oper} {op : Op} {r : Res} (hR : Rel x s a w) (ho : o.op = op) (hst : stillOp op = true) (h : evOp E s op = some r) (hc : r.chk ≠ some false) :
    Still1 E.P x s a o w r := by
  have hf := hR.f
  have hm := hR.m
  have hcut : Cut (len s.mem.boxes) x x := ⟨rfl, fun _ _ => rfl, rfl, rfl⟩
  unfold evOp at h
  split at h
  · -- move
    rename_i y
    split at h
    · rename_i v hv
      simp only [valR, Option.some.injEq] at h; subst h
      exact ⟨rfl, rfl, rfl, _, fun w' _ => by simp [execOp, ho], opd_ok hf hv⟩
    · simp at h
  · -- assign
    rename_i y
    split at h
    · rename_i v hv
      simp only [valR, Option.some.injEq] at h; subst h
      exact ⟨rfl, rfl, rfl, _, fun w' _ => by simp [execOp, ho], opd_ok hf hv⟩
    · simp at h
  · -- pick
    rename_i c p q
    split at h
    · rename_i b hb
      have hcb := bool_of (opd1_ok hf hb)
      cases b with
      | true =>
        simp only at h
        split at h
        · rename_i v hv
          simp only [valR, Option.some.injEq] at h; subst h
          exact ⟨rfl, rfl, rfl, _, fun w' _ => by simp [execOp, ho, hcb, asBool], opd_ok hf hv⟩
        · simp at h
      | false =>
        simp only at h
        split at h
        · rename_i v hv
          simp only [valR, Option.some.injEq] at h; subst h
          exact ⟨rfl, rfl, rfl, _, fun w' _ => by simp [execOp, ho, hcb, asBool], opd_ok hf hv⟩
        · simp at h
    · rename_i b hb
      have hcb := bool_of (opd1_ok hf hb)
      split at h
      · rename_i y y' hy hy'
        split at h
        · rename_i z hz
          simp only [valR, Option.some.injEq] at h; subst h
          refine ⟨rfl, rfl, rfl, if b then a.eval p else a.eval q, fun w' _ => by simp [execOp, ho, hcb, asBool], ?_⟩
          refine mW_ok hcut hz ?_
          cases b
          · exact opd_ok hf hy'
          · exact opd_ok hf hy
        · simp at h
      · simp at h
    · simp at h
  · simp [stillOp] at hst
  · simp [stillOp] at hst
  · -- build
    rename_i t parts
    split at h
    · rename_i z pl hz hpl
      split at h
      · rename_i l hl
        simp only [valR, Option.some.injEq] at h; subst h
        obtain ⟨v, h1, h2⟩ := build_ok (P := E.P) hf hz hpl hl
        exact ⟨rfl, rfl, rfl, _, fun w' _ => by simp [execOp, ho, h1 w'], h2⟩
      · simp at h
    · simp at h
  · -- load
    rename_i t p
    split at h
    · rename_i pa hp
      split at h
      · rename_i y hy
        simp only [valR, Option.some.injEq] at h; subst h
        obtain ⟨u, h1, h2⟩ := loadA_ok hm (opd1_ok hf hp) hy
        exact ⟨rfl, rfl, rfl, _, fun w' hw' => by simp [execOp, ho, h1 w' hw'], h2⟩
      · simp at h
    · simp at h
  · simp [stillOp] at hst
  · -- nilCheck
    rename_i y
    split at h
    · rename_i b off hy
      simp only [pureR, Option.some.injEq] at h; subst h
      have hv := opd1_ok hf hy
      refine ⟨rfl, rfl, rfl, a.eval y, fun w' _ => ?_, hv⟩
      generalize hev : a.eval y = pv at *
      cases hv with
      | loc _ _ _ q hq => simp [execOp, ho, hev]
    · rename_i l hy
      simp only [pureR, Option.some.injEq] at h; subst h
      have hv := opd1_ok hf hy
      refine ⟨rfl, rfl, rfl, a.eval y, fun w' _ => ?_, hv⟩
      generalize hev : a.eval y = pv at *
      cases hv with
      | fp _ _ q o c hf' hr => simp [execOp, ho, hev]
    · simp at h
  · -- binOp
    rename_i op t y y' yt
    split at h
    · rename_i p q hp hq
      split at h
      · rename_i c z hz
        simp only [Option.some.injEq] at h; subst h
        obtain ⟨v, h1, h2⟩ := binA_ok y y' (opd_ok hf hp) (opd_ok hf hq) hz hc
        refine ⟨rfl, rfl, rfl, v, fun w' _ => ?_, h2⟩
        have h3 := h1 w'
        simp only [execOp, ho, Sem.run_bind, Sem.run_pure] at h3 ⊢
        rw [h3]; rfl
      · simp at h
    · rename_i p q hp hq
      obtain ⟨C, e1, e2⟩ := opd_ok hf hp
      obtain ⟨D, e3, e4⟩ := opd_ok hf hq
      split at h
      · split at h
        · rename_i e he
          simp only [pureR, Option.some.injEq] at h; subst h
          refine ⟨rfl, rfl, rfl, .bool e, fun w' _ => ?_, .bool _ _ _⟩
          obtain ⟨h1, h2⟩ := eqT_run (w := w') he e2 e4
          simp only [execOp, ho, e1, e3, Sem.run_bind, h2 .eql y y', Result.andThen_ok, binOp, h1, Sem.run_pure]
        · simp at h
      · split at h
        · rename_i e he
          simp only [pureR, Option.some.injEq] at h; subst h
          refine ⟨rfl, rfl, rfl, .bool (!e), fun w' _ => ?_, .bool _ _ _⟩
          obtain ⟨h1, h2⟩ := eqT_run (w := w') he e2 e4
          simp only [execOp, ho, e1, e3, Sem.run_bind, h2 .neq y y', Result.andThen_ok, binOp, h1, Sem.run_pure]
        · simp at h
      · simp at h
    · simp at h
  · -- unOp
    rename_i op t y
    split at h
    · rename_i p hp
      rw [Option.bind_eq_some_iff] at h
      obtain ⟨z, hz, h⟩ := h
      simp only [pureR, Option.some.injEq] at h; subst h
      obtain ⟨v, h1, h2⟩ := unA_ok (P := E.P) (opd1_ok hf hp) hz
      exact ⟨rfl, rfl, rfl, _, fun w' _ => by simp [execOp, ho, h1 w'], h2⟩
    · simp at h
  · -- convert
    rename_i src dst y
    split at h
    · rename_i l k n d k' hp hs hd
      simp only [pureR, Option.some.injEq] at h; subst h
      obtain ⟨e1, e2⟩ := int_of (opd1_ok hf hp)
      exact ⟨rfl, rfl, rfl, .int k' (k'.wrap n), fun w' _ => by simp [execOp, ho, e1, convert, run_underlying hs, run_underlying hd, Conv.intToInt], .int _ _ _ _ (inR_wrap _ _)⟩
    · simp at h
  · -- fieldAddr
    rename_i t y f
    split at h
    · rename_i p fd hp hfd
      split at h
      · rename_i n hn
        rw [Option.bind_eq_some_iff] at h
        obtain ⟨z, hz, h⟩ := h
        simp only [pureR, Option.some.injEq] at h; subst h
        obtain ⟨fs, hu, hfs⟩ := fieldOf_some hfd
        obtain ⟨q, off, e1, e2⟩ := moveP_ok (opd1_ok hf hp) hz
        refine ⟨rfl, rfl, rfl, .pointer (some ⟨q, off + fd.offset, none⟩), fun w' _ => ?_, e2⟩
        simp [execOp, ho, e1, Instr.fieldAt, run_underlying hu, hfs, Instr.sureAddr, fieldPlace, sizeT_run hn, add_none]
      · simp at h
    · simp at h
  · -- field
    rename_i t y f
    split at h
    · rename_i l fd hp hfd
      split at h
      · rename_i z hz
        simp only [valR, Option.some.injEq] at h; subst h
        obtain ⟨fs, hu, hfs⟩ := fieldOf_some hfd
        obtain ⟨C, e1, e2⟩ := opd_ok hf hp
        obtain ⟨v, h1, h2⟩ := partT_ok (P := E.P) hz e2
        exact ⟨rfl, rfl, rfl, v, fun w' _ => by simp [execOp, ho, e1, Instr.field, run_underlying hu, hfs, asAgg, h1], h2⟩
      · simp at h
    · simp at h
  · -- index
    rename_i t y i
    split at h
    · rename_i l ia hp hi
      obtain ⟨e1, e1', e1'', v, e2, e3⟩ := indexA_ok (opd_ok hf hp) (opd1_ok hf hi) h hc
      exact ⟨e1, e1', e1'', v, fun w' _ => by simp [execOp, ho, e2], e3⟩
    · simp at h
  · -- extract
    rename_i y i
    split at h
    · rename_i l hp
      split at h
      · rename_i z hz
        simp only [valR, Option.some.injEq] at h; subst h
        obtain ⟨C, e1, e2⟩ := opd_ok hf hp
        obtain ⟨v, h1, h2⟩ := RWs.nth e2 _ _ hz
        exact ⟨rfl, rfl, rfl, v, fun w' _ => by simp [execOp, ho, e1, Instr.extract, h1], h2⟩
      · simp at h
    · simp at h
  · simp at h
theorem evOp_ok {E : Env} {x : Ctx} {s : St} {a : Act} {w : World} {o : Oper} {op : Op} {r : Res} (hR : Rel x s a w) (ho : o.op = op) (h : evOp E s op = some r) (hc : r.chk ≠ some false) :
    Sound1 E.P x a o w r := by
  have hf := hR.f
  have hm := hR.m
  by_cases hst : stillOp op = true
  · exact (evOp_still hR ho hst h hc).sound hm
  cases op <;> simp only [stillOp, not_true_eq_false] at hst <;> simp only [evOp] at h
  case alloc t =>
    rw [Option.map_eq_some_iff] at h
    obtain ⟨z, hz, rfl⟩ := h
    obtain ⟨zv, h1, h2⟩ := zeroT_run (P := E.P) (x := x) hz
    refine newBox_sound hm (T := t) h2 ?_
    simp [execOp, ho, Instr.alloc, h1, newVar, newRow]

  case box t y =>
    rw [Option.map_eq_some_iff] at h
    obtain ⟨l, hl, rfl⟩ := h
    refine newBox_sound hm (T := t) (opdC_ok hf hl) ?_
    simp [execOp, ho, Instr.box, newVar, newRow]

  case store t p y =>
    split at h
    · rename_i pa l hp hl
      unfold storeA at h
      split at h
      · simp at h
      · rename_i n hn
        split at h
        · simp at h
        · rename_i hbeq
          simp only [Nat.beq_eq] at hbeq
          split at h
          · rename_i b off
            split at h
            · simp at h
            · rename_i c hcb
              split at h
              · simp at h
              · rename_i c' hput
                simp only [Option.some.injEq] at h; subst h
                have hpv := opd1_ok hf hp
                have hlv := opdC_ok hf hl
                have hll := hlv.length
                rw [len_eq] at hbeq
                generalize hev : a.eval p = pv at *
                cases hpv with
                | loc _ _ _ q hq =>
                  by_cases hne : l = []
                  · subst hne
                    have hc' : c' = c := by simpa [putN] using hput.symm
                    subst hc'
                    have hcs : (a.eval y).cells = #[] := by
                      apply Array.ext'; cases hh : (a.eval y).cells.toList with
                      | nil => rfl
                      | cons _ _ => rw [hh] at hll; simp at hll
                    have hn0 : n = 0 := by simpa using hbeq
                    subst hn0
                    refine ⟨undef, w, x, .inr ⟨?_, rfl⟩, trivial, ?_, Ext.refl x, Step.refl x w⟩
                    · simp [execOp, ho, hev, Instr.storeAt, Instr.sureAddr, storeVar, hcs, sizeT_run hn, storeCells]
                    · have : setN s.mem.boxes b c' = s.mem.boxes := by
                        rw [setN_eq]; rw [nth_eq] at hcb
                        obtain ⟨h1, h2⟩ := List.getElem?_eq_some_iff.1 hcb
                        rw [← h2]; exact List.set_getElem_self h1
                      simp only [this]; exact hm
                  · obtain ⟨C, T, h1, h2, h3, h4⟩ := setBox_ok hm hcb hq hput hlv hne
                    refine ⟨undef, _, x, .inr ⟨?_, rfl⟩, trivial, h3, Ext.refl x, h4⟩
                    have hst := run_storeCells_at E.P q off T (a.eval y).cells.toList 0 C.toArray w h1 (by simpa using h2) (fun v hv => oneCell_of_atomic (hlv.atomic v hv))
                    have hsz : (a.eval y).cells.size = n := by rw [hbeq, hll]; simp
                    simp only [Nat.add_zero] at hst
                    simp [execOp, ho, hev, Instr.storeAt, Instr.sureAddr, storeVar, hsz, sizeT_run hn]
                    rw [hst]; simp [hsz]
          · simp at h
    · simp at h
end Go.Sx
