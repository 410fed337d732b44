/-
  The law of the table of cycles and the real ones, as a plain function: always true. Conditions: none.
-/
import Derived.Test.YtiflfdlglncjlaaCyc5
import Derived.Test.YtiflfdlglncjlaaCycKinds
open Go Go.S3 Go.Proofs
set_option linter.unusedVariables false
set_option linter.unusedSimpArgs false
set_option maxRecDepth 100000
namespace Go.Proofs.Ytiflfdlglncjlaa
noncomputable section
def setF : FlgT := (true, true, true, true, true, true, true)
def zeroF : FlgT := (false, false, false, false, false, false, false)
/-- A processor whose flags hold or don't. -/
def witC (chip op : Int) (tk : Bool) : CpuT := (chip, (0, 0, 0, 0, 0, 0, 0, bif rHolds (rDecode chip op).2.2.2.2.2.2.1 setF == tk then setF else zeroF, 0, 0), false, false, false, 0, false, false, false, false, false, false, false)
theorem holds_wit (k : Int) (F : FlgT) : rHolds k (bif rHolds k setF == rHolds k F then setF else zeroF) = rHolds k F := by
  obtain ⟨f1, f2, f3, f4, f5, f6, f7⟩ := F
  simp only [rHolds, rHoldsT, setF, zeroF, RT.val]
  generalize (k == 0) = b0
  generalize (k == 1) = b1
  generalize (k == 2) = b2
  generalize (k == 3) = b3
  generalize (k == 4) = b4
  generalize (k == 5) = b5
  generalize (k == 6) = b6
  generalize (k == 7) = b7
  generalize (k == 8) = b8
  generalize (k == 9) = b9
  generalize (k == 10) = b10
  cases b0
  case true => cases f2 <;> rfl
  cases b1
  case true => cases f2 <;> rfl
  cases b2
  case true => cases f7 <;> rfl
  cases b3
  case true => cases f7 <;> rfl
  cases b4
  case true => cases f5 <;> rfl
  cases b5
  case true => cases f5 <;> rfl
  cases b6
  case true => cases f1 <;> rfl
  cases b7
  case true => cases f1 <;> rfl
  cases b8
  case true => cases f3 <;> rfl
  cases b9
  case true => cases f3 <;> rfl
  cases b10
  case true => cases f6 <;> rfl
  rfl
def ksT (chip : Int) (tk : Bool) (op : Int) : Bool :=
  let i := rDecode chip op
  !(takenX (witC chip op tk) i == tk) || (rKinds chip op tk == (1, 0, 0, rFirst chip op) :: (bodyX (witC chip op tk) false [op] i).map sk)
theorem kinds_sk (c : CpuT) (hc : c.1 = 1 ∨ c.1 = 2) (op : Int) (h : inR .u8 op) (g : List Int) :
    rKinds c.1 op (takenX c (rDecode c.1 op)) = (1, 0, 0, rFirst c.1 op) :: (bodyX c false g (rDecode c.1 op)).map sk := by
  have hw : takenX (witC c.1 op (takenX c (rDecode c.1 op))) (rDecode c.1 op) = takenX c (rDecode c.1 op) := holds_wit _ _
  rw [sk_body c (witC c.1 op (takenX c (rDecode c.1 op))) false g [op] (rDecode c.1 op) rfl hw.symm]
  generalize takenX c (rDecode c.1 op) = tk at hw ⊢
  have fin : ksT c.1 tk op = true → rKinds c.1 op tk = (1, 0, 0, rFirst c.1 op) :: (bodyX (witC c.1 op tk) false [op] (rDecode c.1 op)).map sk := by
    intro hk
    simp only [ksT, hw] at hk
    simpa using hk
  refine fin ?_
  rcases hc with e | e
  · rw [e]; cases tk
    · exact byte_all (ksT 1 false) (by kernel_rfl) op h
    · exact byte_all (ksT 1 true) (by kernel_rfl) op h
  · rw [e]; cases tk
    · exact byte_all (ksT 2 false) (by kernel_rfl) op h
    · exact byte_all (ksT 2 true) (by kernel_rfl) op h
theorem next_at (c : CpuT) (op : Int) (r : List Int) : nextX c 0 (op :: r) = pick (bodyX c false (op :: r) (rDecode c.1 op)) r.length := by
  have h0 : rInternal 0 = false := by simp [rInternal, rInternalT, RT.val]
  simp [nextX, planX, h0, pick_cons]
theorem nil_bytes (l : List Int) (h : 1 ≤ l.length) (op : Int) (hh : l.head? = some op) : ∃ r, l = op :: r ∧ r.length + 1 = l.length := by
  cases l with
  | nil => simp at h
  | cons a r => simp at hh; subst hh; exact ⟨r, rfl, rfl⟩
theorem micro_rounds (c : CpuT) (hc : c.1 = 1 ∨ c.1 = 2) (op : Int) (h : inR .u8 op) (L : List Int) (N : Int) (hN : NB (L, N) 30) :
    ∃ r, runF true lCycMicroL0T (fun a => 8) (op, false, rKinds c.1 op (takenX c (rDecode c.1 op)), iN (rKinds c.1 op (takenX c (rDecode c.1 op))).length, 0, L, N, c, [op], ()) = some r ∧
      (r.1 = false ∧ ∃ f l n i L N g, r.2 = (op, f, l, n, i, L, N, c, g, ()) ∧ (nextX c 0 g).2 = false) := by
  have hk := fun g => kinds_sk c hc op h g
  have h5 := (kinds_ok c.1 op (takenX c (rDecode c.1 op)) h).2.2.2
  generalize hl : rKinds c.1 op (takenX c (rDecode c.1 op)) = l at hk h5 ⊢
  have hlen : ∀ g, l.length = (bodyX c false g (rDecode c.1 op)).length + 1 := fun g => by rw [hk g]; simp
  refine runF_ind (fun a => ∃ (i : Nat) (L : List Int) (N : Int) (r : List Int), i ≤ l.length ∧ (i ≤ 1 → r = []) ∧ (1 ≤ i → r.length + 1 = i) ∧ NB (L, N) (30 + i) ∧ a = (op, false, l, iN l.length, (i : Int), L, N, c, op :: r, ()))
    (fun a => (a.2.2.2.1 - a.2.2.2.2.1).toNat) _ ?_ _ ⟨0, L, N, [], by omega, fun _ => rfl, fun h => by omega, by simpa using hN, rfl⟩ (by simp only [iN]; omega)
  rintro a ⟨i, L, N, r, hi, hr0, hr1, hNB, rfl⟩
  have hpos : 0 < l.length := by rw [hlen []]; omega
  by_cases hlt : i < l.length
  · have hw : IntKind.wrap .i64 ((i : Int) + 1) = ((i + 1 : Nat) : Int) := by rw [wrap_i64 _ (by omega) (by omega)]; simp
    by_cases h0 : i = 0
    · subst h0
      have hr := hr0 (by omega)
      subst hr
      have hg : R.get cycR l 0 = (1, 0, 0, rFirst c.1 op) := by rw [hk [op]]; rfl
      refine .inl ⟨(op, false, l, iN l.length, 1, L, N, c, [op], ()), ?_, ⟨1, L, N, [], by omega, fun _ => rfl, fun _ => rfl, ⟨hNB.1, by have := hNB.2; simp only at this ⊢; omega⟩, rfl⟩, by simp only [iN]; omega⟩
      have hin : inRng 0 l.length = true := inRng_iff.2 ⟨by omega, by omega⟩
      have hlt' : (0 : Int) < (l.length : Int) := by omega
      have hw1 : IntKind.wrap .i64 1 = 1 := by decide
      simp only [cycR] at hg
      simp [lCycMicroL0T, RT.val, hg, hin, iN, hpos, hw1]
    · have hr := hr1 (by omega)
      have hin : inRng (i : Int) l.length = true := inRng_iff.2 ⟨by omega, by omega⟩
      have hib : ((i : Int) == 0) = false := by simp; omega
      have hb : r.length < (bodyX c false (op :: r) (rDecode c.1 op)).length := by have := hlen (op :: r); omega
      obtain ⟨y, hy⟩ : ∃ y, (bodyX c false (op :: r) (rDecode c.1 op))[r.length]? = some y := ⟨_, List.getElem?_eq_getElem hb⟩
      have hnx : nextX c 0 (op :: r) = (y, true) := by
        rw [next_at]; simp only [pick, List.getD_eq_getElem?_getD, hy, Option.getD_some, hb, decide_true]
      have hg : R.get cycR l (i : Int) = sk y := by
        rw [hk (op :: r)]
        have : (i : Int).toNat = r.length + 1 := by omega
        simp [R.get, this, List.getD_eq_getElem?_getD, List.getElem?_map, hy]
      obtain ⟨c1, b1, _⟩ := nByte_in hNB (by omega)
      refine .inl ⟨(op, false, l, iN l.length, ((i + 1 : Nat) : Int), (nByte (L, N)).2.1, (nByte (L, N)).2.2, c, op :: (r ++ [(nByte (L, N)).1]), ()), ?_, ⟨i + 1, _, _, r ++ [(nByte (L, N)).1], by omega, fun h => by omega, fun _ => by simp; omega, ⟨b1.1, by have := b1.2; show (nByte (L, N)).2.2 ≤ 30 + ((i + 1 : Nat) : Int); omega⟩, rfl⟩, by simp only [iN]; omega⟩
      have hm : Nat.ble (r.length + 1 + 1) most = true := by rw [Nat.ble_eq]; simp only [most]; omega
      simp only [cycR] at hg
      have hlt' : (i : Int) < (l.length : Int) := by omega
      simp [lCycMicroL0T, RT.val, hg, hin, hib, iN, hlt, hw, hnx, sk, c1, hm, h0]
  · have hi' : i = l.length := by omega
    subst hi'
    have hr := hr1 (by omega)
    refine .inr (.inl ⟨(op, false, l, iN l.length, (l.length : Int), L, N, c, op :: r, ()), by simp [lCycMicroL0T, RT.val, iN], rfl, false, l, iN l.length, (l.length : Int), L, N, op :: r, rfl, ?_⟩)
    rw [next_at]
    have := hlen (op :: r)
    simp [pick]; omega
theorem micro_law (n : List Int) (op : Int) (h : inR .u8 op) : lCycMicroC n op = true ∧ lCycMicro n op = true := by
  obtain ⟨c1, b1, hc⟩ := nCPU_in (from_ok n) (by decide)
  obtain ⟨r, hr, h1, f, l, m, i, L, N, g, h2, h3⟩ := micro_rounds (nCPU (n, 0)).1 hc.1 op h (nCPU (n, 0)).2.1 (nCPU (n, 0)).2.2 ⟨b1.1, by have := b1.2; simpa using this⟩
  have e : (lCycMicroT n op).val = some true := by
    simp only [takenX] at hr
    simp only [lCycMicroT, RT.val, c1, hr, okB, getO, h1, h2, h3]
    cases decide (iN n.length > 60) <;> simp [lKnown, lKnownT, RT.val]
  exact ⟨by simp only [lCycMicroC, e]; rfl, by simp only [lCycMicro, e, getO]⟩
end
end Go.Proofs.Ytiflfdlglncjlaa
