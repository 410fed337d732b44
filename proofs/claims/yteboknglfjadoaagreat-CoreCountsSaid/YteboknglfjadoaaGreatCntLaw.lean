/-
  An instruction that nothing disturbs: how many states it takes, and what it does. Conditions: none.
-/
import Derived.Test.YteboknglfjadoaaGreatCoreCnt
import Derived.Test.YteboknglfjadoaaGreatCoreQ
open Go Go.S3 Go.Proofs
set_option linter.unusedVariables false
set_option linter.unusedSimpArgs false
set_option maxRecDepth 100000
namespace Go.Proofs.YteboknglfjadoaaGreat
noncomputable section
def setF : FlgT := (true, true, true, true, true, true, true)
def zeroF : FlgT := (false, false, false, false, false, false, false)
/-- A processor whose flags hold or don't. -/
def witC (chip op : Int) (tk : Bool) : CpuT := (chip, (0, 0, 0, 0, 0, 0, 0, bif rHolds (rDecode chip op).2.2.2.2.2.2.1 setF == tk then setF else zeroF, 0, 0), false, false, false, 0, false, false, false, false, false, false, false)
theorem holds_wit (k : Int) (F : FlgT) : rHolds k (bif rHolds k setF == rHolds k F then setF else zeroF) = rHolds k F := by
  obtain ⟨f1, f2, f3, f4, f5, f6, f7⟩ := F
  simp only [rHolds, rHoldsT, setF, zeroF, RT.val]
  generalize (k == 0) = b0
  generalize (k == 1) = b1
  generalize (k == 2) = b2
  generalize (k == 3) = b3
  generalize (k == 4) = b4
  generalize (k == 5) = b5
  generalize (k == 6) = b6
  generalize (k == 7) = b7
  generalize (k == 8) = b8
  generalize (k == 9) = b9
  generalize (k == 10) = b10
  cases b0
  case true => cases f2 <;> rfl
  cases b1
  case true => cases f2 <;> rfl
  cases b2
  case true => cases f7 <;> rfl
  cases b3
  case true => cases f7 <;> rfl
  cases b4
  case true => cases f5 <;> rfl
  cases b5
  case true => cases f5 <;> rfl
  cases b6
  case true => cases f1 <;> rfl
  cases b7
  case true => cases f1 <;> rfl
  cases b8
  case true => cases f3 <;> rfl
  cases b9
  case true => cases f3 <;> rfl
  cases b10
  case true => cases f6 <;> rfl
  rfl
def skel (chip op : Int) (tk : Bool) : List Cyc := (bodyX (witC chip op tk) false [op] (rDecode chip op)).map sk
def sumK : List Cyc → Int
  | [] => 0
  | x :: l => x.2.2.2 + sumK l
def okK (x : Cyc) : Bool := !(x.1 == 1) && !(x.1 == 8) && decide (3 ≤ x.2.2.2) && decide (x.2.2.2 ≤ 6)
def cntB (chip op : Int) (tk : Bool) : Bool := decide (rTotal chip op tk = rFirst chip op + sumK (skel chip op tk)) && (skel chip op tk).all okK && decide ((skel chip op tk).length ≤ 4) && decide (4 ≤ rFirst chip op) && decide (rFirst chip op ≤ 6) && decide (rTotal chip op tk ≤ 18)
def cntT (chip : Int) (tk : Bool) (op : Int) : Bool := !(takenX (witC chip op tk) (rDecode chip op) == tk) || cntB chip op tk
theorem cnt_facts (c : CpuT) (hc : c.1 = 1 ∨ c.1 = 2) (op : Int) (h : inR .u8 op) : cntB c.1 op (takenX c (rDecode c.1 op)) = true ∧
    ∀ g, (bodyX c false g (rDecode c.1 op)).map sk = skel c.1 op (takenX c (rDecode c.1 op)) := by
  have hw : takenX (witC c.1 op (takenX c (rDecode c.1 op))) (rDecode c.1 op) = takenX c (rDecode c.1 op) := holds_wit _ _
  refine ⟨?_, fun g => sk_body c (witC c.1 op (takenX c (rDecode c.1 op))) false g [op] (rDecode c.1 op) rfl hw.symm⟩
  generalize takenX c (rDecode c.1 op) = tk at hw ⊢
  have fin : cntT c.1 tk op = true → cntB c.1 op tk = true := by
    intro hk
    simp only [cntT, hw] at hk
    simpa using hk
  refine fin ?_
  rcases hc with e | e
  · rw [e]; cases tk
    · exact byte_all (cntT 1 false) (by kernel_rfl) op h
    · exact byte_all (cntT 1 true) (by kernel_rfl) op h
  · rw [e]; cases tk
    · exact byte_all (cntT 2 false) (by kernel_rfl) op h
    · exact byte_all (cntT 2 true) (by kernel_rfl) op h
theorem okK_iff {x : Cyc} : okK x = true ↔ x.1 ≠ 1 ∧ x.1 ≠ 8 ∧ 3 ≤ x.2.2.2 ∧ x.2.2.2 ≤ 6 := by
  simp only [okK, Bool.and_eq_true, Bool.not_eq_true', beq_eq_false_iff_ne, decide_eq_true_eq, and_assoc]
theorem sum_pos : ∀ (K : List Cyc), K.all okK = true → ∀ n, 0 ≤ sumK (K.take n) ∧ sumK (K.take n) ≤ sumK K
  | [], _, n => by simp [sumK]
  | x :: K, h, 0 => by
    have := (sum_pos K (by simp only [List.all_cons, Bool.and_eq_true] at h; exact h.2) K.length)
    simp only [List.all_cons, Bool.and_eq_true, okK_iff] at h
    rw [List.take_length] at this
    simp only [List.take_zero, sumK]; omega
  | x :: K, h, n + 1 => by
    have := (sum_pos K (by simp only [List.all_cons, Bool.and_eq_true] at h; exact h.2) n)
    simp only [List.all_cons, Bool.and_eq_true, okK_iff] at h
    simp only [List.take_succ_cons, sumK]; omega
theorem sum_step : ∀ (K : List Cyc) (n : Nat) (x : Cyc), K[n]? = some x → sumK (K.take (n + 1)) = sumK (K.take n) + x.2.2.2
  | [], n, x, h => by simp at h
  | y :: K, 0, x, h => by simp only [List.getElem?_cons_zero, Option.some.injEq] at h; subst h; simp [sumK]
  | y :: K, n + 1, x, h => by
    simp only [List.getElem?_cons_succ] at h
    have := sum_step K n x h
    simp only [List.take_succ_cons, sumK, this]; omega
theorem next_at (c : CpuT) (op : Int) (r : List Int) : nextX c 0 (op :: r) = pick (bodyX c false (op :: r) (rDecode c.1 op)) r.length := by
  have h0 : rInternal 0 = false := by simp [rInternal, rInternalT, RT.val]
  simp [nextX, planX, h0, pick_cons]
theorem next_nil (c : CpuT) : nextX c 0 [] = ((1, pcOf c, 0, 4), true) := by
  have h0 : rInternal 0 = false := by simp [rInternal, rInternalT, RT.val]
  simp [nextX, planX, h0, pick_zero]
theorem next_K {c : CpuT} {op : Int} {K : List Cyc} (hK : ∀ g, (bodyX c false g (rDecode c.1 op)).map sk = K) (r : List Int) :
    (r.length < K.length → (nextX c 0 (op :: r)).2 = true ∧ K[r.length]? = some (sk (nextX c 0 (op :: r)).1)) ∧ (K.length ≤ r.length → (nextX c 0 (op :: r)).2 = false) := by
  have hl : K.length = (bodyX c false (op :: r) (rDecode c.1 op)).length := by rw [← hK (op :: r), List.length_map]
  rw [next_at]
  refine ⟨fun h => ?_, fun h => ?_⟩
  · have hb : r.length < (bodyX c false (op :: r) (rDecode c.1 op)).length := by omega
    refine ⟨by simp only [pick, hb, decide_true], ?_⟩
    rw [← hK (op :: r), List.getElem?_map, List.getElem?_eq_getElem hb]
    simp only [pick, List.getD_eq_getElem?_getD, List.getElem?_eq_getElem hb, Option.map_some, Option.getD_some]
  · have hb : ¬ r.length < (bodyX c false (op :: r) (rDecode c.1 op)).length := by omega
    simp only [pick, hb, decide_false]
/-! ### clock states -/
/-- Nothing latched, not halted. -/
def Calm (c : CpuT) : Prop := c.2.2.2.2.2.2.1 = false ∧ c.2.2.2.2.2.2.2.1 = false ∧ c.2.2.2.2.2.2.2.2.1 = false ∧ c.2.2.2.2.2.2.2.2.2.1 = false
theorem Calm.q {c : CpuT} (h : Calm c) : Quiet c := fun _ => ⟨h.1, h.2.2.1, h.2.2.2⟩
theorem fin_calm {c : CpuT} (hq : Calm c) (s : Int) (g : List Int) (l : LnT) : Calm (finX c s g l) := by
  simp only [finX]
  cases hs : rInternal s with
  | true => simp only [cond_true]; exact hq
  | false =>
    simp only [cond_false]
    generalize rDecode c.1 (g.getD 0 0) = i
    simp only [finI]
    by_cases h38 : (i.1 == 38) = true
    · simp only [h38, cond_true, rim_eq]
      exact hq
    · simp only [Bool.not_eq_true] at h38
      simp only [h38, cond_false]
      by_cases h39 : (i.1 == 39) = true
      · obtain ⟨q1, q2, q3, q4⟩ := hq
        simp only [h39, cond_true, rSim, rSimT, RT.val, Calm, q1, q2, q3, q4]
        simp
      · simp only [Bool.not_eq_true] at h39
        simp only [h39, cond_false]
        exact hq
theorem pick_calm {c : CpuT} (h : Calm c) : rPick c (lnR false) = 0 := by
  obtain ⟨q1, q2, q3, q4⟩ := h
  simp only [rPick, rPickT, RT.val, lnR, q1, q2, q3, q4]
  simp
theorem acc0 (c : CpuT) : rAccept c 0 = c := by simp [rAccept, rAcceptT, RT.val]
theorem st1 : stateX 1 = 1 := rfl
theorem clk1 {c : CpuT} (q : Quiet c) (g x d) : clockX (c, 0, g, x, 1, false) (lnR false) d = (c, 0, g, x, 2, false) := by
  simp only [clockX, latchR q, show stateX 1 = 1 from rfl]; rfl
theorem clk2 {c : CpuT} (q : Quiet c) (g x d) : clockX (c, 0, g, x, 2, false) (lnR false) d = (c, 0, g, x, 3, false) := by
  simp only [clockX, latchR q, show stateX 2 = 2 from rfl]; rfl
theorem clk3 {c : CpuT} (q : Quiet c) (g x d) : clockX (c, 0, g, x, 3, false) (lnR false) d =
    bif le3 (readX c x d).2.2.2 then endX c 0 (g ++ [(readX c x d).2.2.1]) false (lnR false) else (c, 0, g ++ [(readX c x d).2.2.1], readX c x d, 4, false) := by
  simp only [clockX, latchR q, show stateX 3 = 3 from rfl]; rfl
theorem clk4 {c : CpuT} (q : Quiet c) (g) (x : Cyc) (d t : Int) (h1 : 4 ≤ t) (h2 : t ≤ 6) : clockX (c, 0, g, x, t, false) (lnR false) d =
    bif decide (t < x.2.2.2) && !(t == 6) then (c, 0, g, x, t + 1, false) else endX c 0 g false (lnR false) := by
  have ht : t = 4 ∨ t = 5 ∨ t = 6 := by omega
  rcases ht with rfl | rfl | rfl
  · simp only [clockX, latchR q, show stateX 4 = 4 from rfl]; rfl
  · simp only [clockX, latchR q, show stateX 5 = 5 from rfl]; rfl
  · simp only [clockX, latchR q, show stateX 6 = 6 from rfl]; rfl
theorem end_more {c : CpuT} (hh : c.2.2.2.2.1 = false) (g : List Int) (h : (nextX c 0 g).2 = true) : endX c 0 g false (lnR false) = (c, 0, g, (nextX c 0 g).1, 1, false) := by
  simp only [endX, h, cond_true, idlX, hh, cond_false, Bool.false_and]
theorem end_done {c : CpuT} (hq : Calm c) (g : List Int) (h : (nextX c 0 g).2 = false) : ∃ z n, (n = 1 ∨ n = 9) ∧ endX c 0 g false (lnR false) = (finX c 0 g (lnR false), 0, [], z, n, false) := by
  refine ⟨(nextX (finX c 0 g (lnR false)) 0 []).1, bif (finX c 0 g (lnR false)).2.2.2.2.1 then 9 else 1, ?_, ?_⟩
  · cases (finX c 0 g (lnR false)).2.2.2.2.1 <;> simp
  · simp only [endX, h, cond_false, pick_calm (fin_calm hq 0 g (lnR false)), acc0, idlX]
    simp
/-! ### the whole instruction -/
def goes (st : Int) (d : CoreT) : Bool := decide (st < 20) && (st == 0 || (decide (iN d.2.2.1.length > 0) || (d.2.2.2.2.1 != 1 && d.2.2.2.2.1 != 9)))
def ixX (d : CoreT) : Int := if 4 < iN d.2.2.1.length then 4 else iN d.2.2.1.length
abbrev CntT := Int × List Int × Int × List Int × Int × CoreT × CoreT × List Int × PUnit
theorem ix_in (d : CoreT) (bs : List Int) (h : bs.length = 5) : inRng (ixX d) bs.length = true := by
  rw [inRng_iff]; unfold ixX iN; split <;> omega
theorem round_go (op : Int) (bs : List Int) (st : Int) (L : List Int) (N : Int) (c0 d : CoreT) (got : List Int) (hb : bs.length = 5) (hd : d.2.2.1.length ≤ 8) (hg : got.length ≤ 8) (h0 : 0 ≤ st) (h : goes st d = true) :
    (lCountsL0T (op, bs, st, L, N, c0, d, got, ())).val = some (.cont (op, bs, st + 1, L, N, c0, clockX d (lnR false) (R.get (R.int .u8) bs (ixX d)),
      (bif d.2.2.2.2.1 == 3 then got ++ [bif rReads d.2.2.2.1.1 then R.get (R.int .u8) bs (ixX d) else d.2.2.2.1.2.2.1] else got), ())) := by
  have hm : (8 : Nat) + 1 ≤ most := by decide
  have r1 : roomB d = true := roomB_iff.2 (by omega)
  have r2 := ix_in d bs hb
  have r3 : ∀ v : Int, Nat.ble (got ++ [v]).length most = true := fun v => by rw [Nat.ble_eq]; simp only [List.length_append, List.length_singleton]; omega
  have hst : st < 20 := by simp only [goes, Bool.and_eq_true, decide_eq_true_eq] at h; exact h.1
  have w : IntKind.wrap .i64 (st + 1) = st + 1 := wrap_i64 _ (by omega) (by omega)
  simp only [goes] at h
  simp only [ixX] at r2 ⊢
  cases h3 : d.2.2.2.2.1 == 3 with
  | true => simp only [lCountsL0T, RT.val, h, h3, r1, r2, r3, w, cond_true, cond_false, Bool.not_true, Bool.not_false, Bool.or_true, Bool.false_or, clkX]; rfl
  | false => simp only [lCountsL0T, RT.val, h, h3, r1, r2, r3, w, cond_true, cond_false, Bool.not_true, Bool.not_false, Bool.or_true, Bool.true_or, Bool.false_or, clkX]; rfl
theorem round_stop (op : Int) (bs : List Int) (st : Int) (L : List Int) (N : Int) (c0 d : CoreT) (got : List Int) (h : goes st d = false) :
    (lCountsL0T (op, bs, st, L, N, c0, d, got, ())).val = some (.brk (op, bs, st, L, N, c0, d, got, ())) := by
  simp only [goes] at h
  simp only [lCountsL0T, RT.val, h, cond_false]
/-- The states of the cycles that are over. -/
def spent (F : Int) (K : List Cyc) : List Int → Int
  | [] => 0
  | _ :: r => F + sumK (K.take r.length)
/-- In the middle of the instruction. -/
inductive Mid (c : CpuT) (op : Int) (F : Int) (K : List Cyc) : Int → CoreT → List Int → Prop
  | p (g : List Int) (t : Int) (h1 : 1 ≤ t) (h2 : t ≤ 3) (hg : g = [] ∨ ∃ r, g = op :: r ∧ r.length < K.length) : Mid c op F K (spent F K g + t - 1) (c, 0, g, (nextX c 0 g).1, t, false) g
  | q (r : List Int) (x : Cyc) (t : Int) (h1 : 4 ≤ t) (h2 : t ≤ x.2.2.2) (h3 : x.2.2.2 ≤ 6) (hr : r.length ≤ K.length) (h0 : 0 ≤ spent F K (op :: r) - x.2.2.2) : Mid c op F K (spent F K (op :: r) - x.2.2.2 + t - 1) (c, 0, op :: r, x, t, false) (op :: r)
def Fin (c : CpuT) (T : Int) (st : Int) (d : CoreT) (got : List Int) : Prop := st = T ∧ d.1 = finX c 0 got (lnR false) ∧ d.2.2.1 = [] ∧ (d.2.2.2.2.1 = 1 ∨ d.2.2.2.2.1 = 9)
section
variable {c : CpuT} {op F : Int} {K : List Cyc} (hq : Calm c) (hh : c.2.2.2.2.1 = false) (hF : rFirst c.1 op = F) (hF1 : 4 ≤ F) (hF2 : F ≤ 6) (hK : ∀ g, (bodyX c false g (rDecode c.1 op)).map sk = K) (hKo : K.all okK = true) (hKl : K.length ≤ 4) (hT : F + sumK K ≤ 18)
include hKo in
theorem spent_in (r : List Int) : F ≤ spent F K (op :: r) ∧ spent F K (op :: r) ≤ F + sumK K := by
  have := sum_pos K hKo r.length
  simp only [spent]; omega
include hq hh hK in
/-- A cycle is over. -/
theorem over (r : List Int) (hr : r.length ≤ K.length) : Mid c op F K (spent F K (op :: r)) (endX c 0 (op :: r) false (lnR false)) (op :: r) ∨ Fin c (F + sumK K) (spent F K (op :: r)) (endX c 0 (op :: r) false (lnR false)) (op :: r) := by
  by_cases h : r.length < K.length
  · left
    have hn := ((next_K hK r).1 h).1
    rw [end_more hh _ hn]
    have := Mid.p (c := c) (op := op) (F := F) (K := K) (op :: r) 1 (by omega) (by omega) (.inr ⟨r, rfl, h⟩)
    simpa using this
  · right
    obtain ⟨z, n, hn, e⟩ := end_done hq (op :: r) ((next_K hK r).2 (by omega))
    rw [e]
    refine ⟨?_, rfl, rfl, hn⟩
    simp only [spent]; rw [List.take_of_length_le (by omega)]
include hq hh hF hF1 hF2 hK hKo hKl hT in
theorem mid_go {st : Int} {d : CoreT} {got : List Int} (b : Int) (hb : got = [] → b = op) (h : Mid c op F K st d got) :
    0 ≤ st ∧ st < 18 ∧ goes st d = true ∧ d.2.2.1 = got ∧ got.length ≤ 5 ∧
      (Mid c op F K (st + 1) (clockX d (lnR false) b) (bif d.2.2.2.2.1 == 3 then got ++ [bif rReads d.2.2.2.1.1 then b else d.2.2.2.1.2.2.1] else got) ∨
       Fin c (F + sumK K) (st + 1) (clockX d (lnR false) b) (bif d.2.2.2.2.1 == 3 then got ++ [bif rReads d.2.2.2.1.1 then b else d.2.2.2.1.2.2.1] else got)) := by
  cases h with
  | p _ t h1 h2 hg =>
    have hst : 0 ≤ spent F K got + t - 1 ∧ spent F K got + t - 1 < 18 ∧ (got = [] → spent F K got = 0) := by
      rcases hg with rfl | ⟨r, rfl, hr⟩
      · simp only [spent]; exact ⟨by omega, by omega, fun _ => trivial⟩
      · have h0 := spent_in (F := F) hKo (op := op) r
        obtain ⟨x, hx⟩ : ∃ x, K[r.length]? = some x := ⟨_, List.getElem?_eq_getElem hr⟩
        have h4 := sum_step K r.length x hx
        have h5 := (sum_pos K hKo (r.length + 1)).2
        have h6 := okK_iff.1 (List.all_eq_true.1 hKo x (List.mem_iff_getElem?.2 ⟨_, hx⟩))
        simp only [spent] at h0 ⊢
        exact ⟨by omega, by omega, fun h => by simp at h⟩
    have hl : got.length ≤ 5 := by
      rcases hg with rfl | ⟨r, rfl, hr⟩
      · simp
      · simp only [List.length_cons]; omega
    have hgo : goes (spent F K got + t - 1) (c, 0, got, (nextX c 0 got).1, t, false) = true := by
      have h18 : decide (spent F K got + t - 1 < 20) = true := by simp; omega
      rcases hg with rfl | ⟨r, rfl, hr⟩
      · have := hst.2.2 rfl
        simp only [goes, h18, Bool.true_and, Bool.or_eq_true, Bool.and_eq_true, bne_iff_ne, beq_iff_eq]
        by_cases e : t = 1
        · left; omega
        · right; right; exact ⟨e, by omega⟩
      · have : decide (iN (op :: r).length > 0) = true := by simp only [iN, List.length_cons, decide_eq_true_eq]; omega
        simp only [goes, h18, this, Bool.true_or, Bool.or_true, Bool.and_self]
    refine ⟨hst.1, hst.2.1, hgo, rfl, hl, ?_⟩
    have ht : t = 1 ∨ t = 2 ∨ t = 3 := by omega
    rcases ht with rfl | rfl | rfl
    · left
      rw [clk1 hq.q]
      have := Mid.p (c := c) (op := op) (F := F) (K := K) got 2 (by omega) (by omega) hg
      rw [show spent F K got + 1 - 1 + 1 = spent F K got + 2 - 1 by omega]; exact this
    · left
      rw [clk2 hq.q]
      have := Mid.p (c := c) (op := op) (F := F) (K := K) got 3 (by omega) (by omega) hg
      rw [show spent F K got + 2 - 1 + 1 = spent F K got + 3 - 1 by omega]; exact this
    · rw [clk3 hq.q]
      simp only [show ((3 : Int) == 3) = true from rfl, cond_true]
      rcases hg with rfl | ⟨r, rfl, hr⟩
      · have hbo := hb rfl
        subst hbo
        have hy : readX c (nextX c 0 []).1 b = (1, pcOf c, b, F) := by
          rw [next_nil]; simp only [readX, show rReads 1 = true by simp [rReads, rReadsT, RT.val], cond_true, hF]; rfl
        have hv : (bif rReads (nextX c 0 []).1.1 then b else (nextX c 0 []).1.2.2.1) = b := by
          rw [next_nil]; simp only [show rReads 1 = true by simp [rReads, rReadsT, RT.val], cond_true]
        have hle : le3 F = false := by simp [le3]; omega
        simp only [hy, hv, hle, cond_false, List.nil_append]
        left
        have := Mid.q (c := c) (op := b) (F := F) (K := K) [] (1, pcOf c, b, F) 4 (by omega) (by simp only; omega) (by simp only; omega) (by simp) (by simp [spent, sumK])
        have e : spent F K [] + 3 - 1 + 1 = spent F K [b] - F + 4 - 1 := by simp [spent, sumK]
        rw [e]; exact this
      · obtain ⟨hn1, hn2⟩ := (next_K hK r).1 hr
        have h6 := okK_iff.1 (List.all_eq_true.1 hKo _ (List.mem_iff_getElem?.2 ⟨_, hn2⟩))
        have h4 := sum_step K r.length _ hn2
        generalize (nextX c 0 (op :: r)).1 = x at hn2 h6 h4 ⊢
        simp only [sk] at h6 h4
        have hy : readX c x b = (x.1, x.2.1, (bif rReads x.1 then b else x.2.2.1), x.2.2.2) := by
          have e1 : (x.1 == 1) = false := by simpa using h6.1
          have e2 : (x.1 == 8) = false := by simpa using h6.2.1
          simp only [readX, e1, e2, Bool.or_self, cond_false]
        simp only [hy]
        generalize (bif rReads x.1 then b else x.2.2.1) = v
        have hs : spent F K (op :: (r ++ [v])) = spent F K (op :: r) + x.2.2.2 := by
          simp only [spent, List.length_append, List.length_singleton, h4]; omega
        simp only [List.cons_append]
        by_cases h3 : x.2.2.2 ≤ 3
        · have hle : le3 x.2.2.2 = true := by simpa [le3] using h3
          simp only [hle, cond_true]
          have := over (F := F) hq hh hK (r ++ [v]) (by simp only [List.length_append, List.length_singleton]; omega)
          rw [show spent F K (op :: r) + 3 - 1 + 1 = spent F K (op :: (r ++ [v])) by omega]; exact this
        · have hle : le3 x.2.2.2 = false := by simpa [le3] using h3
          simp only [hle, cond_false]
          left
          have := Mid.q (c := c) (op := op) (F := F) (K := K) (r ++ [v]) (x.1, x.2.1, v, x.2.2.2) 4 (by omega) (by simp only; omega) (by simp only; omega) (by simp only [List.length_append, List.length_singleton]; omega) (by rw [hs]; have := spent_in (F := F) hKo (op := op) r; simp only; omega)
          simp only at this
          rw [show spent F K (op :: r) + 3 - 1 + 1 = spent F K (op :: (r ++ [v])) - x.2.2.2 + 4 - 1 by omega]; exact this
  | q r x t h1 h2 h3 hr h00 =>
    have h0 := spent_in (F := F) hKo (op := op) r
    have hl : (op :: r).length ≤ 5 := by simp only [List.length_cons]; omega
    have hgo : goes (spent F K (op :: r) - x.2.2.2 + t - 1) (c, 0, op :: r, x, t, false) = true := by
      have h18 : decide (spent F K (op :: r) - x.2.2.2 + t - 1 < 20) = true := by simp; omega
      have : decide (iN (op :: r).length > 0) = true := by simp only [iN, List.length_cons, decide_eq_true_eq]; omega
      simp only [goes, h18, this, Bool.true_or, Bool.or_true, Bool.and_self]
    refine ⟨by omega, by omega, hgo, rfl, hl, ?_⟩
    have t3 : (t == 3) = false := by simp; omega
    rw [clk4 hq.q _ _ _ _ h1 (by omega)]
    simp only [t3, cond_false]
    by_cases ht : t < x.2.2.2
    · have e6 : (t == 6) = false := by simp; omega
      simp only [ht, decide_true, e6, Bool.not_false, Bool.and_self, cond_true]
      left
      have := Mid.q (c := c) (op := op) (F := F) (K := K) r x (t + 1) (by omega) (by omega) h3 hr h00
      rw [show spent F K (op :: r) - x.2.2.2 + t - 1 + 1 = spent F K (op :: r) - x.2.2.2 + (t + 1) - 1 by omega]; exact this
    · simp only [ht, decide_false, Bool.false_and, cond_false]
      have := over (F := F) hq hh hK r hr
      rw [show spent F K (op :: r) - x.2.2.2 + t - 1 + 1 = spent F K (op :: r) by omega]; exact this
include hq hh hF hF1 hF2 hK hKo hKl hT in
theorem loop_ok (bs : List Int) (hbs : bs.length = 5) (hop : bs.head? = some op) (L : List Int) (N : Int) (c0 : CoreT) :
    ∃ r, runF true lCountsL0T (fun a => 25) (op, bs, 0, L, N, c0, (c, 0, [], (nextX c 0 []).1, 1, false), [], ()) = some r ∧
      r.1 = false ∧ ∃ st d got L N, r.2 = (op, bs, st, L, N, c0, d, got, ()) ∧ Fin c (F + sumK K) st d got := by
  refine runF_ind (fun a => ∃ st d got, a = (op, bs, st, L, N, c0, d, got, ()) ∧ (Mid c op F K st d got ∨ Fin c (F + sumK K) st d got))
    (fun a => (20 - a.2.2.1).toNat) _ ?_ _ ⟨0, _, _, rfl, .inl (by have := Mid.p (c := c) (op := op) (F := F) (K := K) [] 1 (by omega) (by omega) (.inl rfl); simpa [spent] using this)⟩ (by simp)
  rintro a ⟨st, d, got, rfl, h | h⟩
  · left
    have hbb : got = [] → R.get (R.int .u8) bs (ixX d) = op := by
      intro hg
      have hd : d.2.2.1 = [] := by rw [(mid_go hq hh hF hF1 hF2 hK hKo hKl hT op (fun _ => rfl) h).2.2.2.1, hg]
      cases bs with
      | nil => simp at hbs
      | cons o t =>
        simp only [List.head?_cons, Option.some.injEq] at hop
        subst hop
        simp [ixX, hd, iN, R.get]
    obtain ⟨h1, h2, h3, h4, h5, h6⟩ := mid_go hq hh hF hF1 hF2 hK hKo hKl hT _ hbb h
    exact ⟨_, round_go op bs st L N c0 d got hbs (by rw [h4]; omega) (by omega) h1 h3, ⟨st + 1, _, _, rfl, h6⟩, by simp only; omega⟩
  · right; left
    have hs := (sum_pos K hKo 0)
    have hstop : goes st d = false := by
      obtain ⟨e1, _, e3, e4⟩ := h
      have a1 : (st == 0) = false := by simp at hs ⊢; omega
      have a2 : decide (iN d.2.2.1.length > 0) = false := by rw [e3]; rfl
      have a3 : (d.2.2.2.2.1 != 1 && d.2.2.2.2.1 != 9) = false := by rcases e4 with e | e <;> rw [e] <;> rfl
      simp only [goes, a1, a2, a3, Bool.or_self, Bool.and_false]
    exact ⟨_, round_stop op bs st L N c0 d got hstop, rfl, st, d, got, L, N, rfl, h⟩
end
end
end Go.Proofs.YteboknglfjadoaaGreat
