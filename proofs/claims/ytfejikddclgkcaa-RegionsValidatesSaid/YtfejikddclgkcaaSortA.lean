/-
  What the library's exchange of blocks and its insertion sort do to a list of cells. Conditions: none.
-/
import Derived.Test.YtfejikddclgkcaaSort1
import Derived.Test.YtfejikddclgkcaaBlockLaw
open Go Go.S3 Go.Proofs Go.Proofs.Cells
set_option linter.unusedVariables false
set_option linter.unusedSimpArgs false
set_option maxRecDepth 100000
namespace Go.Proofs.Ytfejikddclgkcaa
noncomputable section
theorem uLess_lt (a b : Cell) : decide (uLess a b < 0) = decide (a.1 < b.1) := by
  simp only [uLess, uLessT, uCmp, uCmpT, RT.val, bne_self_eq_false, cond_false]
  by_cases h : a.1 < b.1
  · simp [h]
  · by_cases h2 : a.1 > b.1 <;> simp [h, h2]
theorem uLess_nlt (a b : Cell) : (!decide (uLess a b < 0)) = decide (b.1 ≤ a.1) := by
  rw [uLess_lt]; by_cases h : a.1 < b.1 <;> simp [h] <;> omega
theorem ml : (maxLen : Int) ≤ 9223372036854775807 := by decide
abbrev CR : R := R.pair (R.int IntKind.u16) (R.int IntKind.u8)
theorem rng_mid {α : Type} (X : List α) (p : α) (Y : List α) (i : Int) (h : i = X.length) : inRng i (X ++ p :: Y).length = true := inRng_iff.2 (by subst h; simp; omega)
theorem rng_mid2 {α : Type} (X : List α) (p q : α) (M Y : List α) (j : Int) (h : j = X.length + 1 + M.length) : inRng j (X ++ p :: (M ++ q :: Y)).length = true := inRng_iff.2 (by subst h; simp; omega)
theorem get_mid2 (X : List Cell) (p q : Cell) (M Y : List Cell) (j : Int) (h : j = X.length + 1 + M.length) : R.get CR (X ++ p :: (M ++ q :: Y)) j = q := by
  have e : X ++ p :: (M ++ q :: Y) = (X ++ p :: M) ++ q :: Y := by simp
  rw [e]; exact get_mid (r := CR) _ _ _ _ (by simp; omega)
theorem len_set {α : Type} (l : List α) (i : Int) (x : α) : (setI l i x).length = l.length := by simp [setI]
/-! ### blocks -/
theorem swap_run (X U M V Y : List Cell) (h : V.length = U.length) (hm : ((X ++ U ++ M ++ V ++ Y).length : Int) ≤ maxLen) :
    (uSwapT (X ++ U ++ M ++ V ++ Y) X.length (X.length + U.length + M.length) U.length).val = some (X ++ V ++ M ++ U ++ Y) := by
  have hml := ml
  simp only [List.length_append] at hm
  obtain ⟨r, hr, hR⟩ := runF_ind (fl := false) (t := uSwapL0T) (fuel := fun a => Int.toNat (a.2.2.1 - a.2.2.2.1) + 1)
    (I := fun a => ∃ i : Nat, i ≤ U.length ∧ a = ((X.length : Int), (X.length : Int) + U.length + M.length, (U.length : Int), (i : Int), X ++ V.take i ++ U.drop i ++ M ++ U.take i ++ V.drop i ++ Y, ()))
    (m := fun a => Int.toNat (a.2.2.1 - a.2.2.2.1)) (R := fun r => r.2.2.2.2.2.1 = X ++ V ++ M ++ U ++ Y)
    (fun a hi => by
      obtain ⟨i, hi, rfl⟩ := hi
      by_cases hlt : i < U.length
      · left
        obtain ⟨p, hp⟩ : ∃ p, U.drop i = p :: U.drop (i + 1) := ⟨U[i], by rw [List.drop_eq_getElem_cons hlt]⟩
        obtain ⟨q, hq⟩ : ∃ q, V.drop i = q :: V.drop (i + 1) := ⟨V[i]'(by omega), by rw [List.drop_eq_getElem_cons (by omega)]⟩
        have hp' : U.take (i + 1) = U.take i ++ [p] := by
          rw [List.take_add_one]; congr 1
          have := congrArg List.head? hp; simp [List.head?_drop] at this; rw [this]; rfl
        have hq' : V.take (i + 1) = V.take i ++ [q] := by
          rw [List.take_add_one]; congr 1
          have := congrArg List.head? hq; simp [List.head?_drop] at this; rw [this]; rfl
        have e0 : X ++ V.take i ++ U.drop i ++ M ++ U.take i ++ V.drop i ++ Y = (X ++ V.take i) ++ p :: ((U.drop (i + 1) ++ M ++ U.take i) ++ q :: (V.drop (i + 1) ++ Y)) := by
          rw [hp, hq]; simp
        have e1 : X ++ V.take (i + 1) ++ U.drop (i + 1) ++ M ++ U.take (i + 1) ++ V.drop (i + 1) ++ Y = (X ++ V.take i) ++ q :: ((U.drop (i + 1) ++ M ++ U.take i) ++ p :: (V.drop (i + 1) ++ Y)) := by
          rw [hp', hq']; simp
        have l1 : (V.take i).length = i := by simp; omega
        have l2 : (U.drop (i + 1) ++ M ++ U.take i).length + 1 = U.length + M.length := by simp; omega
        have a1 : ((X.length : Int) + i) = (X ++ V.take i).length := by rw [List.length_append, l1]; omega
        have a2 : ((X.length : Int) + U.length + M.length + i) = (X ++ V.take i).length + 1 + (U.drop (i + 1) ++ M ++ U.take i).length := by rw [List.length_append, l1]; omega
        refine ⟨_, ?_, ⟨i + 1, hlt, rfl⟩, by simp; omega⟩
        rw [e0, e1]
        have w1 : IntKind.wrap .i64 ((X.length : Int) + i) = (X ++ V.take i).length := by rw [wrap_i64 _ (by omega) (by omega), a1]
        have w2 : IntKind.wrap .i64 ((X.length : Int) + U.length + M.length + i) = (X ++ V.take i).length + 1 + (U.drop (i + 1) ++ M ++ U.take i).length := by rw [wrap_i64 _ (by omega) (by omega), a2]
        have w3 : IntKind.wrap .i64 ((i : Int) + 1) = ((i + 1 : Nat) : Int) := by rw [wrap_i64 _ (by omega) (by omega)]; simp
        have d1 : decide ((i : Int) < (U.length : Int)) = true := by simpa using hlt
        have g1 : R.get CR ((X ++ V.take i) ++ p :: ((U.drop (i + 1) ++ M ++ U.take i) ++ q :: (V.drop (i + 1) ++ Y))) ((X ++ V.take i).length : Int) = p := get_mid (r := CR) _ _ _ _ rfl
        have g2 := get_mid2 (X ++ V.take i) p q (U.drop (i + 1) ++ M ++ U.take i) (V.drop (i + 1) ++ Y) _ rfl
        have r1 := rng_mid (X ++ V.take i) p ((U.drop (i + 1) ++ M ++ U.take i) ++ q :: (V.drop (i + 1) ++ Y)) _ rfl
        have r2 := rng_mid2 (X ++ V.take i) p q (U.drop (i + 1) ++ M ++ U.take i) (V.drop (i + 1) ++ Y) _ rfl
        have s1 := swap_mid (X ++ V.take i) p q (U.drop (i + 1) ++ M ++ U.take i) (V.drop (i + 1) ++ Y) _ _ rfl rfl
        simp only [uSwapL0T, RT.val, w1, w2, w3, d1, g1, g2, r1, r2, s1, len_set, cond_true, Bool.not_true, Bool.or_true, Bool.false_or, Bool.or_false, cond_false]
      · right; left
        have : i = U.length := by omega
        subst this
        refine ⟨((X.length : Int), (X.length : Int) + U.length + M.length, (U.length : Int), (U.length : Int), X ++ V.take U.length ++ U.drop U.length ++ M ++ U.take U.length ++ V.drop U.length ++ Y, ()), ?_, ?_⟩
        · have d1 : decide ((U.length : Int) < (U.length : Int)) = false := by simp
          simp only [uSwapL0T, RT.val, d1, cond_false]
        · have e1 : V.take U.length = V := List.take_of_length_le (by omega)
          have e2 : V.drop U.length = [] := List.drop_eq_nil_of_le (by omega)
          simp [e1, e2])
    ((X.length : Int), (X.length : Int) + U.length + M.length, (U.length : Int), 0, X ++ U ++ M ++ V ++ Y, ()) ⟨0, Nat.zero_le _, by simp⟩ (Nat.lt_succ_self _)
  simp only [uSwapT, ownSt, RT.val, hr, okB, getO, cond_true, hR]
def swapX (l : List Cell) (a b n : Nat) : List Cell := l.take a ++ (l.drop b).take n ++ (l.drop (a + n)).take (b - a - n) ++ (l.drop a).take n ++ l.drop (b + n)
theorem parts5 {α : Type} (l : List α) (a b n : Nat) (h1 : a + n ≤ b) (h2 : b + n ≤ l.length) : ∃ X U M V Y : List α, l = X ++ U ++ M ++ V ++ Y ∧ X.length = a ∧ U.length = n ∧ M.length = b - a - n ∧ V.length = n := by
  obtain ⟨X, l1, rfl, hX⟩ := split_at l a (by omega)
  simp only [List.length_append] at h2
  obtain ⟨U, l2, rfl, hU⟩ := split_at l1 n (by omega)
  simp only [List.length_append] at h2
  obtain ⟨M, l3, rfl, hM⟩ := split_at l2 (b - a - n) (by omega)
  simp only [List.length_append] at h2
  obtain ⟨V, Y, rfl, hV⟩ := split_at l3 n (by omega)
  exact ⟨X, U, M, V, Y, by simp, hX, hU, hM, hV⟩
theorem swapX_eq (X U M V Y : List Cell) (h : V.length = U.length) : swapX (X ++ U ++ M ++ V ++ Y) X.length (X.length + U.length + M.length) U.length = X ++ V ++ M ++ U ++ Y := by
  unfold swapX
  have e1 : (X ++ U ++ M ++ V ++ Y).take X.length = X := by simp [List.append_assoc]
  have e2 : ((X ++ U ++ M ++ V ++ Y).drop (X.length + U.length + M.length)).take U.length = V := by
    have : X ++ U ++ M ++ V ++ Y = (X ++ U ++ M) ++ (V ++ Y) := by simp
    rw [this, List.drop_left' (by simp; omega), ← h, List.take_left' rfl]
  have e3 : ((X ++ U ++ M ++ V ++ Y).drop (X.length + U.length)).take (X.length + U.length + M.length - X.length - U.length) = M := by
    have : X ++ U ++ M ++ V ++ Y = (X ++ U) ++ (M ++ (V ++ Y)) := by simp
    rw [this, List.drop_left' (by simp), List.take_left' (by omega)]
  have e4 : ((X ++ U ++ M ++ V ++ Y).drop X.length).take U.length = U := by
    have : X ++ U ++ M ++ V ++ Y = X ++ (U ++ (M ++ (V ++ Y))) := by simp
    rw [this, List.drop_left' rfl, List.take_left' rfl]
  have e5 : (X ++ U ++ M ++ V ++ Y).drop (X.length + U.length + M.length + U.length) = Y := by
    exact List.drop_left' (by simp; omega)
  rw [e1, e2, e3, e4, e5]
def swapOk (l : List Cell) (a b n : Int) : Bool := decide (0 ≤ a) && decide (0 ≤ n) && decide (a + n ≤ b) && decide (b + n ≤ l.length)
def uSwap1E : Entry := stE uSwapRb uSwapEl 48 uSwapTs (fun a => some (swapOk a.1 a.2.1 a.2.2.1 a.2.2.2)) (fun a => swapX a.1 a.2.1.toNat a.2.2.1.toNat a.2.2.2.toNat)
theorem stE_congr {P : Program} {f : FuncId} {r : R} {T : TypeId} {g0 : FuncId} {ts : List Sh} {pre pre' : List r.den × HL ts → Option Bool} {F G : List r.den × HL ts → List r.den} (h : EntryOk P f (stE r T g0 ts pre F))
    (hp : ∀ a, (R.sl r).ok a.1 → okHL ts a.2 → pre' a ≠ some false → pre a ≠ some false ∧ F a = G a) : EntryOk P f (stE r T g0 ts pre' G) := EntryOk.st_congr h hp
theorem uSwap1_ok : EntryOk Try.prog 65 uSwap1E := stE_congr uSwap_ok fun a h1 h2 hp => by
  obtain ⟨l, a, b, n⟩ := a
  have hp : swapOk l a b n = true := by cases h : swapOk l a b n <;> simp_all
  simp only [swapOk, Bool.and_eq_true, decide_eq_true_eq] at hp
  obtain ⟨⟨⟨p1, p2⟩, p3⟩, p4⟩ := hp
  have hlen : l.length ≤ maxLen := h1.1
  obtain ⟨a, rfl⟩ := Int.eq_ofNat_of_zero_le p1
  obtain ⟨n, rfl⟩ := Int.eq_ofNat_of_zero_le p2
  obtain ⟨b, rfl⟩ := Int.eq_ofNat_of_zero_le (show (0 : Int) ≤ b by omega)
  obtain ⟨X, U, M, V, Y, rfl, rfl, rfl, hM, hV⟩ := parts5 l a b n (by omega) (by omega)
  have hb : b = X.length + U.length + M.length := by omega
  subst hb
  have := swap_run X U M V Y hV (by exact_mod_cast hlen)
  simp only [uSwapC, uSwap, Int.toNat_natCast]
  push_cast at this ⊢
  rw [this, swapX_eq X U M V Y hV]
  simp [okB, getO]
/-! ### insertion -/
theorem ins_inner (X T Rr : List Cell) (x : Cell) (b i : Int) (hT : Srt T) (hm : ((X ++ T ++ x :: Rr).length : Int) ≤ maxLen) :
    ∃ r, runF false uInsL0T (fun a => Int.toNat (a.2.2.2.1 - a.1) + 1) ((X.length : Int), b, i, (X.length : Int) + T.length, X ++ T ++ x :: Rr, ()) = some r ∧ ∃ j, r.2 = ((X.length : Int), b, i, j, X ++ ins x T ++ Rr, ()) := by
  have hml := ml
  simp only [List.length_append, List.length_cons] at hm
  refine runF_ind (fl := false) (t := uInsL0T) (fuel := fun a => Int.toNat (a.2.2.2.1 - a.1) + 1)
    (I := fun a => ∃ P Q : List Cell, T = P ++ Q ∧ (∀ y ∈ Q, x.1 < y.1) ∧ a = ((X.length : Int), b, i, (X.length : Int) + P.length, X ++ P ++ x :: (Q ++ Rr), ()))
    (m := fun a => Int.toNat (a.2.2.2.1 - a.1)) (R := fun r => ∃ j, r.2 = ((X.length : Int), b, i, j, X ++ ins x T ++ Rr, ()))
    (fun a hi => ?_) _ ⟨T, [], by simp, by simp, by simp⟩ (Nat.lt_succ_self _)
  obtain ⟨P, Q, hPQ, hQ, rfl⟩ := hi
  have hlen : T.length = P.length + Q.length := by rw [hPQ]; simp
  rcases List.eq_nil_or_concat P with rfl | ⟨P', y, hc⟩
  · right; left
    refine ⟨((X.length : Int), b, i, (X.length : Int) + (([] : List Cell).length : Int), X ++ ins x T ++ Rr, ()), ?_, _, rfl⟩
    have e : X ++ ins x T ++ Rr = X ++ x :: (Q ++ Rr) := by
      rw [hPQ, List.nil_append, show ins x Q = x :: Q from by have := ins_mid x [] Q (by simp) hQ; simpa using this]; simp
    have d : decide ((X.length : Int) + (([] : List Cell).length : Int) > X.length) = false := by simp
    rw [e]
    simp only [uInsL0T, RT.val, d, Bool.not_false, Bool.true_or, cond_true, Bool.false_and, cond_false, List.append_nil]
  · rw [List.concat_eq_append] at hc
    subst hc
    have hl1 : (P' ++ [y]).length = P'.length + 1 := by simp
    have d : decide ((X.length : Int) + ((P' ++ [y]).length : Int) > X.length) = true := by simp; omega
    have e0 : X ++ (P' ++ [y]) ++ x :: (Q ++ Rr) = (X ++ P') ++ y :: ([] ++ x :: (Q ++ Rr)) := by simp
    have w1 : IntKind.wrap .i64 ((X.length : Int) + ((P' ++ [y]).length : Int) - 1) = (X ++ P').length := by rw [wrap_i64 _ (by simp; omega) (by simp; omega)]; simp; omega
    have w2 : ((X.length : Int) + ((P' ++ [y]).length : Int)) = (X ++ P').length + 1 + (([] : List Cell).length : Int) := by simp; omega
    have g1 : R.get CR ((X ++ P') ++ y :: ([] ++ x :: (Q ++ Rr))) ((X ++ P').length : Int) = y := get_mid (r := CR) _ _ _ _ rfl
    have g2 := get_mid2 (X ++ P') y x [] (Q ++ Rr) _ rfl
    have r1 := rng_mid (X ++ P') y ([] ++ x :: (Q ++ Rr)) _ rfl
    have r2 := rng_mid2 (X ++ P') y x [] (Q ++ Rr) _ rfl
    have s1 := swap_mid' (X ++ P') y x [] (Q ++ Rr) _ _ rfl rfl
    by_cases hlt : x.1 < y.1
    · left
      have u1 : decide (uLess x y < 0) = true := by rw [uLess_lt]; simpa using hlt
      refine ⟨((X.length : Int), b, i, (X.length : Int) + (P'.length : Int), X ++ P' ++ x :: ((y :: Q) ++ Rr), ()), ?_, ⟨P', y :: Q, by rw [hPQ]; simp, by simpa using ⟨hlt, fun a b h => hQ (a, b) h⟩, rfl⟩, by simp; omega⟩
      have e9 : X ++ P' ++ x :: ((y :: Q) ++ Rr) = (X ++ P') ++ x :: ([] ++ y :: (Q ++ Rr)) := by simp
      have w3 : (X.length : Int) + (P'.length : Int) = ((X ++ P').length : Int) := by simp
      rw [e0, e9, w3]
      rw [w2] at w1 d ⊢
      simp only [uInsL0T, RT.val, w1, d, g1, g2, r1, r2, s1, u1, len_set, cond_true, Bool.not_true, Bool.or_true, Bool.false_or, Bool.or_false, cond_false, Bool.and_true, Bool.true_and]
    · right; left
      have u1 : decide (uLess x y < 0) = false := by rw [uLess_lt]; simpa using hlt
      refine ⟨((X.length : Int), b, i, (X.length : Int) + ((P' ++ [y]).length : Int), X ++ (P' ++ [y]) ++ x :: (Q ++ Rr), ()), ?_, (X.length : Int) + ((P' ++ [y]).length : Int), ?_⟩
      · rw [e0]
        rw [w2] at w1 d ⊢
        simp only [uInsL0T, RT.val, w1, d, g1, g2, r1, r2, s1, u1, len_set, cond_true, Bool.not_true, Bool.or_true, Bool.false_or, Bool.or_false, cond_false, Bool.and_true, Bool.true_and, Bool.and_false]
      · have hsrt := hT
        rw [hPQ] at hsrt
        have hP : ∀ z ∈ P' ++ [y], z.1 ≤ x.1 := fun z hz => by
          rcases List.mem_append.1 hz with hz | hz
          · have := (List.pairwise_append.1 (List.pairwise_append.1 hsrt).1).2.2 z hz y (by simp); omega
          · simp at hz; subst hz; omega
        rw [hPQ, ins_mid x (P' ++ [y]) Q hP hQ]; simp
theorem ins_run (X L Y : List Cell) (hm : (X ++ L ++ Y).length + 1 ≤ maxLen) :
    (uInsT (X ++ L ++ Y) X.length (X.length + L.length)).val = some (X ++ isort L ++ Y) := by
  have hml := ml
  have hmi : ((X ++ L ++ Y).length : Int) + 1 ≤ maxLen := by exact_mod_cast hm
  simp only [List.length_append] at hmi
  have w0 : IntKind.wrap .i64 ((X.length : Int) + 1) = (X.length : Int) + ((1 : Nat) : Int) := by rw [wrap_i64 _ (by omega) (by omega)]; simp
  obtain ⟨r, hr, hR⟩ := runF_ind (fl := false) (t := uInsL1T) (fuel := fun a => Int.toNat (a.2.1 - a.2.2.1) + 1)
    (I := fun a => ∃ k : Nat, (k ≤ L.length ∨ L.length = 0 ∧ k = 1) ∧ 1 ≤ k ∧ a = ((X.length : Int), (X.length : Int) + L.length, (X.length : Int) + (k : Int), X ++ isort (L.take k) ++ L.drop k ++ Y, ()))
    (m := fun a => Int.toNat (a.2.1 - a.2.2.1)) (R := fun r => r.2.2.2.2.1 = X ++ isort L ++ Y)
    (fun a hi => by
      obtain ⟨k, hk, hk1, rfl⟩ := hi
      by_cases hlt : k < L.length
      · left
        obtain ⟨x, hx⟩ : ∃ x, L.drop k = x :: L.drop (k + 1) := ⟨L[k], by rw [List.drop_eq_getElem_cons hlt]⟩
        have hx' : L.take (k + 1) = L.take k ++ [x] := by
          rw [List.take_add_one]; congr 1
          have := congrArg List.head? hx; simp [List.head?_drop] at this; rw [this]; rfl
        have hil : ∀ l : List Cell, (isort l).length = l.length := fun l => by
          have : ∀ (l acc : List Cell), (l.foldl (fun a x => ins x a) acc).length = acc.length + l.length := by
            intro l
            induction l with
            | nil => intro acc; simp
            | cons a l ih => intro acc; rw [List.foldl_cons, ih]; have : (ins a acc).length = acc.length + 1 := by
                               induction acc with
                               | nil => rfl
                               | cons b acc ih2 => simp only [ins]; split <;> simp [ih2]
                             simp; omega
          simp [isort, this]
        have l1 : (isort (L.take k)).length = k := by rw [hil]; simp; omega
        obtain ⟨q, hq, j, hj⟩ := ins_inner X (isort (L.take k)) (L.drop (k + 1) ++ Y) x ((X.length : Int) + L.length) ((X.length : Int) + k) (isort_srt _) (by
          simp only [List.length_append, List.length_cons, l1, List.length_drop]; omega)
        have e0 : X ++ isort (L.take k) ++ L.drop k ++ Y = X ++ isort (L.take k) ++ x :: (L.drop (k + 1) ++ Y) := by rw [hx]; simp
        rw [l1] at hq
        refine ⟨((X.length : Int), (X.length : Int) + L.length, (X.length : Int) + ((k + 1 : Nat) : Int), X ++ isort (L.take (k + 1)) ++ L.drop (k + 1) ++ Y, ()), ?_, ⟨k + 1, .inl hlt, by omega, rfl⟩, by simp; omega⟩
        have d : decide ((X.length : Int) + (k : Int) < (X.length : Int) + L.length) = true := by simp; omega
        have w1 : IntKind.wrap .i64 ((X.length : Int) + (k : Int) + 1) = (X.length : Int) + ((k + 1 : Nat) : Int) := by rw [wrap_i64 _ (by omega) (by omega)]; push_cast; omega
        have e1 : X ++ ins x (isort (L.take k)) ++ (L.drop (k + 1) ++ Y) = X ++ isort (L.take (k + 1)) ++ L.drop (k + 1) ++ Y := by rw [hx', isort_snoc]; simp
        rw [e0]
        simp only [uInsL1T, RT.val, d, hq, okB, getO, cond_true, hj, w1, e1]
      · right; left
        have d : decide ((X.length : Int) + (k : Int) < (X.length : Int) + L.length) = false := by simp; omega
        refine ⟨((X.length : Int), (X.length : Int) + L.length, (X.length : Int) + (k : Int), X ++ isort (L.take k) ++ L.drop k ++ Y, ()), ?_, ?_⟩
        · simp only [uInsL1T, RT.val, d, cond_false]
        · have e1 : L.take k = L := List.take_of_length_le (by omega)
          have e2 : L.drop k = [] := List.drop_eq_nil_of_le (by omega)
          simp [e1, e2])
    ((X.length : Int), (X.length : Int) + L.length, (X.length : Int) + ((1 : Nat) : Int), X ++ L ++ Y, ()) ⟨1, by omega, by omega, by
      cases L with
      | nil => simp [isort]
      | cons a l => simp [isort, ins]⟩ (Nat.lt_succ_self _)
  simp only [uInsT, ownSt, RT.val, w0, hr, okB, getO, cond_true, hR]
def sortX (l : List Cell) (a b : Nat) : List Cell := l.take a ++ isort ((l.drop a).take (b - a)) ++ l.drop b
theorem sortX_eq (X L Y : List Cell) : sortX (X ++ L ++ Y) X.length (X.length + L.length) = X ++ isort L ++ Y := by
  unfold sortX
  have e1 : (X ++ L ++ Y).take X.length = X := by simp [List.append_assoc]
  have e2 : ((X ++ L ++ Y).drop X.length).take (X.length + L.length - X.length) = L := by
    rw [List.append_assoc, List.drop_left' rfl, List.take_left' (by omega)]
  have e3 : (X ++ L ++ Y).drop (X.length + L.length) = Y := List.drop_left' (by simp)
  rw [e1, e2, e3]
theorem parts3 {α : Type} (l : List α) (a b : Nat) (h1 : a ≤ b) (h2 : b ≤ l.length) : ∃ X L Y : List α, l = X ++ L ++ Y ∧ X.length = a ∧ X.length + L.length = b := by
  obtain ⟨X, l1, rfl, hX⟩ := split_at l a (by omega)
  simp only [List.length_append] at h2
  obtain ⟨L, Y, rfl, hL⟩ := split_at l1 (b - a) (by omega)
  exact ⟨X, L, Y, by simp, hX, by omega⟩
def rangeOk (l : List Cell) (a b : Int) : Bool := decide (0 ≤ a) && decide (a ≤ b) && decide (b ≤ l.length) && Nat.ble l.length most
def uIns1E : Entry := stE uInsRb uInsEl 48 uInsTs (fun a => some (rangeOk a.1 a.2.1 a.2.2)) (fun a => sortX a.1 a.2.1.toNat a.2.2.toNat)
theorem uIns1_ok : EntryOk Try.prog 60 uIns1E := stE_congr uIns_ok fun a h1 h2 hp => by
  obtain ⟨l, a, b⟩ := a
  have hp : rangeOk l a b = true := by cases h : rangeOk l a b <;> simp_all
  simp only [rangeOk, Bool.and_eq_true, decide_eq_true_eq, Nat.ble_eq] at hp
  obtain ⟨⟨⟨p1, p2⟩, p3⟩, p4⟩ := hp
  obtain ⟨a, rfl⟩ := Int.eq_ofNat_of_zero_le p1
  obtain ⟨b, rfl⟩ := Int.eq_ofNat_of_zero_le (show (0 : Int) ≤ b by omega)
  obtain ⟨X, L, Y, rfl, rfl, rfl⟩ := parts3 l a b (by omega) (by omega)
  have := ins_run X L Y (Nat.le_trans (Nat.add_le_add_right p4 1) (by decide))
  simp only [uInsC, uIns, Int.toNat_natCast]
  push_cast at this ⊢
  rw [this, sortX_eq]
  simp [okB, getO]
end
end Go.Proofs.Ytfejikddclgkcaa
