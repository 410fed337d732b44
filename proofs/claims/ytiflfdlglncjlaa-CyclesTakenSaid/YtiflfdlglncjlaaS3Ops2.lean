/-
  Soundness of the symbolic executor, part 2: operations that leave memory alone. Conditions: none (lemmas).
-/
import Derived.Test.YtiflfdlglncjlaaS3Ops1
set_option linter.unusedSimpArgs false
set_option linter.unusedVariables false
namespace Go.S3

theorem int_of {x : Ctx} {l : Bool} {k : IntKind} {n : Int} {v : Value} (h : RA x (.int l k n) v) : v = .int k n ∧ inR k n := by
  cases h with
  | int _ _ _ _ h => exact ⟨rfl, h⟩
theorem bool_of {x : Ctx} {l b : Bool} {v : Value} (h : RA x (.bool l b) v) : v = .bool b := by
  cases h; rfl

theorem run_shl {P : Program} {w : World} (k k' : IntKind) (p q : Int) (h : 0 ≤ q) :
    (Op.shift .shl k p k' q).run P w = .ok (.int k (shlI k p q)) w := by
  unfold Op.shift shlI
  rw [if_neg (by omega)]
  simp [go_sem]
theorem run_shr {P : Program} {w : World} (k k' : IntKind) (p q : Int) (h : 0 ≤ q) :
    (Op.shift .shr k p k' q).run P w = .ok (.int k (shrI k p q)) w := by
  unfold Op.shift shrI
  rw [if_neg (by omega)]
  simp [go_sem]

/-- Values at which '==' looks at their type. -/
def plainEq : Value → Bool
  | .bool _ | .pointer _ | .agg _ | .slice _ _ _ => true
  | _ => false
theorem run_equalIn_bool {P : Program} {w : World} {t : TypeId} (d : Nat) (hd : P.underlying t = some .bool) (p q : Bool) : (Op.equalIn (d + 1) t (.bool p) (.bool q)).run P w = .ok (p == q) w := by
  simp [Op.equalIn, run_underlying hd]
theorem run_equalIn_nil {P : Program} {w : World} {t e : TypeId} (d : Nat) (hd : P.underlying t = some (.pointer e)) (p : Option Addr) : (Op.equalIn (d + 1) t (.pointer none) (.pointer p)).run P w = .ok p.isNone w := by
  cases p <;> simp [Op.equalIn, run_underlying hd]
theorem run_equalIn_ptr_nil {P : Program} {w : World} {t e : TypeId} (d : Nat) (hd : P.underlying t = some (.pointer e)) (p : Addr) : (Op.equalIn (d + 1) t (.pointer (some p)) (.pointer none)).run P w = .ok false w := by
  simp [Op.equalIn, run_underlying hd]
theorem run_equal_bool {P : Program} {w : World} {t : TypeId} (hd : P.underlying t = some .bool) (p q : Bool) : (Op.equal t (.bool p) (.bool q)).run P w = .ok (p == q) w := run_equalIn_bool 9999 hd p q
theorem run_equal_nil {P : Program} {w : World} {t e : TypeId} (hd : P.underlying t = some (.pointer e)) (p : Option Addr) : (Op.equal t (.pointer none) (.pointer p)).run P w = .ok p.isNone w := run_equalIn_nil 9999 hd p
theorem run_equal_ptr_nil {P : Program} {w : World} {t e : TypeId} (hd : P.underlying t = some (.pointer e)) (p : Addr) : (Op.equal t (.pointer (some p)) (.pointer none)).run P w = .ok false w := run_equalIn_ptr_nil 9999 hd p
theorem run_equalIn_slice_nil {P : Program} {w : World} {t e : TypeId} (d : Nat) (hd : P.underlying t = some (.slice e)) (a : Option Addr) (n m n' m' : Nat) : (Op.equalIn (d + 1) t (.slice none n m) (.slice a n' m')).run P w = .ok a.isNone w := by
  cases a <;> simp [Op.equalIn, run_underlying hd]
theorem run_equalIn_slice_some {P : Program} {w : World} {t e : TypeId} (d : Nat) (hd : P.underlying t = some (.slice e)) (a : Addr) (n m n' m' : Nat) : (Op.equalIn (d + 1) t (.slice (some a) n m) (.slice none n' m')).run P w = .ok false w := by
  simp [Op.equalIn, run_underlying hd]
theorem run_equal_slice_nil {P : Program} {w : World} {t e : TypeId} (hd : P.underlying t = some (.slice e)) (a : Option Addr) (n m n' m' : Nat) : (Op.equal t (.slice none n m) (.slice a n' m')).run P w = .ok a.isNone w := run_equalIn_slice_nil 9999 hd a n m n' m'
theorem run_equal_slice_some {P : Program} {w : World} {t e : TypeId} (hd : P.underlying t = some (.slice e)) (a : Addr) (n m n' m' : Nat) : (Op.equal t (.slice (some a) n m) (.slice none n' m')).run P w = .ok false w := run_equalIn_slice_some 9999 hd a n m n' m'
theorem eqGuard_none {P : Program} {w : World} {t : TypeId} {a b : Value} (op : BinOp) (ox oy : Operand) (ha : ∀ c, a ≠ .agg c) (hn : a ≠ .nilIface) : (eqGuard op t ox oy a b).run P w = .ok () w := by
  cases a <;> (try exact absurd rfl hn) <;> (try exact absurd rfl (ha _)) <;> cases op <;> simp [eqGuard]
theorem run_eql_plain {P : Program} {w : World} {t : TypeId} {a b : Value} {e : Bool} (ox oy : Operand) (ha : ∀ c, a ≠ .agg c) (hn : a ≠ .nilIface) (_hb : True) (_hc : True) (hpa : plainEq a = true) (hpb : plainEq b = true)
    (h : (Op.equal t a b).run P w = .ok e w) : (do eqGuard .eql t ox oy a b; binOp .eql t a b : Sem Value).run P w = .ok (.bool e) w := by
  have h1 := eqGuard_none (P := P) (w := w) (t := t) (b := b) .eql ox oy ha hn
  have h2 : (binOp .eql t a b).run P w = .ok (.bool e) w := by
    cases a <;> simp [plainEq] at hpa <;> cases b <;> simp [plainEq] at hpb <;> simp only [binOp] <;> simp [go_sem, h]
  simp [go_sem, h1, h2]
theorem run_neq_plain {P : Program} {w : World} {t : TypeId} {a b : Value} {e : Bool} (ox oy : Operand) (ha : ∀ c, a ≠ .agg c) (hn : a ≠ .nilIface) (_hb : True) (_hc : True) (hpa : plainEq a = true) (hpb : plainEq b = true)
    (h : (Op.equal t a b).run P w = .ok e w) : (do eqGuard .neq t ox oy a b; binOp .neq t a b : Sem Value).run P w = .ok (.bool (!e)) w := by
  have h1 := eqGuard_none (P := P) (w := w) (t := t) (b := b) .neq ox oy ha hn
  have h2 : (binOp .neq t a b).run P w = .ok (.bool (!e)) w := by
    cases a <;> simp [plainEq] at hpa <;> cases b <;> simp [plainEq] at hpb <;> simp only [binOp] <;> simp [go_sem, h]
  simp [go_sem, h1, h2]

theorem ptrA_of {x : Ctx} {a : A} {v : Value} (h : ptrA a = true) (hv : RA x a v) : ∃ p, v = .pointer (some p) := by
  cases a <;> simp [ptrA] at h <;> cases hv <;> exact ⟨_, rfl⟩

theorem binA_ok {P : Program} {x : Ctx} {t : TypeId} {op : BinOp} {a b r : A} {va vb : Value} {c : Option Bool} (ox oy : Operand)
    (ha : RA x a va) (hb : RA x b vb) (h : binA (P.underlying t) op a b = some (c, r)) (hc : c ≠ some false) :
    ∃ v, (∀ w, (do eqGuard op t ox oy va vb; binOp op t va vb : Sem Value).run P w = .ok v w) ∧ RA x r v := by
  unfold binA at h
  split at h
  · rename_i l k p l' k' q
    obtain ⟨rfl, hp⟩ := int_of ha
    obtain ⟨rfl, hq⟩ := int_of hb
    split at h
    · split at h
      · split at h
        · rename_i hq0
          simp only [decide_eq_true_eq] at hq0
          simp only [Option.some.injEq, Prod.mk.injEq] at h
          obtain ⟨_, rfl⟩ := h
          exact ⟨_, fun w => by simp [eqGuard, binOp, run_shl _ _ _ _ hq0], .int _ _ _ _ (inR_wrap _ _)⟩
        · simp at h
      · simp only [Option.some.injEq, Prod.mk.injEq] at h
        obtain ⟨rfl, rfl⟩ := h
        have hq0 : 0 ≤ q := by simpa using hc
        exact ⟨_, fun w => by simp [eqGuard, binOp, run_shl _ _ _ _ hq0], .int _ _ _ _ (inR_wrap _ _)⟩
    · split at h
      · split at h
        · rename_i hq0
          simp only [decide_eq_true_eq] at hq0
          simp only [Option.some.injEq, Prod.mk.injEq] at h
          obtain ⟨_, rfl⟩ := h
          exact ⟨_, fun w => by simp [eqGuard, binOp, run_shr _ _ _ _ hq0], .int _ _ _ _ (inR_shr _ _ _ hp)⟩
        · simp at h
      · simp only [Option.some.injEq, Prod.mk.injEq] at h
        obtain ⟨rfl, rfl⟩ := h
        have hq0 : 0 ≤ q := by simpa using hc
        exact ⟨_, fun w => by simp [eqGuard, binOp, run_shr _ _ _ _ hq0], .int _ _ _ _ (inR_shr _ _ _ hp)⟩
    · rename_i hshl hshr
      split at h
      · simp at h
      · rename_i hk
        have := sameK_eq hk
        subst this
        split at h
        · have hq0 : q ≠ 0 ∧ r = .int (match l' && (q != 0) with | true => l | false => false) k (k.wrap (p.tdiv q)) := by
            split at h
            · rename_i e
              simp only [Option.some.injEq, Prod.mk.injEq] at h
              obtain ⟨rfl, rfl⟩ := h
              simp only [Bool.and_eq_true, bne_iff_ne] at e
              exact ⟨e.2, by rw [e.1, show (q != 0) = true by simpa using e.2]; rfl⟩
            · rename_i e
              simp only [Option.some.injEq, Prod.mk.injEq] at h
              obtain ⟨rfl, rfl⟩ := h
              exact ⟨by simpa using hc, by rw [e]⟩
          obtain ⟨hq0, rfl⟩ := hq0
          exact ⟨_, fun w => by simp [eqGuard, binOp, Op.intDiv, hq0, go_sem], .int _ _ _ _ (inR_wrap _ _)⟩
        · have hq0 : q ≠ 0 ∧ r = .int (match l' && (q != 0) with | true => l | false => false) k (p.tmod q) := by
            split at h
            · rename_i e
              simp only [Option.some.injEq, Prod.mk.injEq] at h
              obtain ⟨rfl, rfl⟩ := h
              simp only [Bool.and_eq_true, bne_iff_ne] at e
              exact ⟨e.2, by rw [e.1, show (q != 0) = true by simpa using e.2]; rfl⟩
            · rename_i e
              simp only [Option.some.injEq, Prod.mk.injEq] at h
              obtain ⟨rfl, rfl⟩ := h
              exact ⟨by simpa using hc, by rw [e]⟩
          obtain ⟨hq0, rfl⟩ := hq0
          exact ⟨_, fun w => by simp [eqGuard, binOp, Op.intDiv, hq0, go_sem], .int _ _ _ _ (inR_tmod _ _ _ hp)⟩
        · rename_i hquo hrem
          split at h
          · rename_i n hn
            simp only [Option.some.injEq, Prod.mk.injEq] at h
            obtain ⟨rfl, rfl⟩ := h
            cases op <;> simp only [arithI, bitsI, Option.some.injEq, reduceCtorEq] at hn <;> subst hn <;>
              exact ⟨_, fun w => by simp [eqGuard, binOp, Op.intArith, Op.intBits, andI, orI, xorI, andNotI, go_sem], .int _ _ _ _ (inR_wrap _ _)⟩
          · split at h
            · rename_i e he
              simp only [Option.some.injEq, Prod.mk.injEq] at h
              obtain ⟨rfl, rfl⟩ := h
              cases op <;> simp only [cmpI, Option.some.injEq, reduceCtorEq] at he <;> subst he <;>
                exact ⟨_, fun w => by simp [eqGuard, binOp, Op.intCmp, go_sem], .bool _ _ _⟩
            · simp at h
  · rename_i l p l' q
    have := bool_of ha; subst this
    have := bool_of hb; subst this
    split at h
    · rename_i hd
      simp only [Option.some.injEq, Prod.mk.injEq] at h
      obtain ⟨rfl, rfl⟩ := h
      exact ⟨_, fun w => run_eql_plain ox oy (by simp) (by simp) trivial trivial rfl rfl (run_equal_bool hd p q), .bool _ _ _⟩
    · rename_i hd
      simp only [Option.some.injEq, Prod.mk.injEq] at h
      obtain ⟨rfl, rfl⟩ := h
      exact ⟨_, fun w => run_neq_plain ox oy (by simp) (by simp) trivial trivial rfl rfl (run_equal_bool hd p q), .bool _ _ _⟩
    · simp at h
  · cases ha; cases hb
    split at h
    · rename_i hd
      simp only [Option.some.injEq, Prod.mk.injEq] at h
      obtain ⟨rfl, rfl⟩ := h
      exact ⟨_, fun w => run_eql_plain ox oy (by simp) (by simp) trivial trivial rfl rfl (run_equal_nil hd _), .bool _ _ _⟩
    · rename_i hd
      simp only [Option.some.injEq, Prod.mk.injEq] at h
      obtain ⟨rfl, rfl⟩ := h
      exact ⟨_, fun w => run_neq_plain ox oy (by simp) (by simp) trivial trivial rfl rfl (run_equal_nil hd _), .bool _ _ _⟩
    · simp at h
  · rename_i p q
    cases ha; cases hb
    split at h
    · simp only [Option.some.injEq, Prod.mk.injEq] at h
      obtain ⟨rfl, rfl⟩ := h
      exact ⟨_, fun w => by simp [eqGuard, binOp, Op.stringOp, go_sem], .bool _ _ _⟩
    · simp only [Option.some.injEq, Prod.mk.injEq] at h
      obtain ⟨rfl, rfl⟩ := h
      exact ⟨_, fun w => by simp [eqGuard, binOp, Op.stringOp, go_sem], .bool _ _ _⟩
    · simp only [Option.some.injEq, Prod.mk.injEq] at h
      obtain ⟨rfl, rfl⟩ := h
      have hq0 : ¬ (((p.size + q.size : Nat) : Int) > IntKind.i64.max) := by simpa using hc
      refine ⟨_, fun w => ?_, .str _ _⟩
      simp only [eqGuard, binOp, Op.stringOp]
      rw [if_neg hq0]
      simp [go_sem]
    · simp at h
  · cases ha; cases hb
    split at h
    · rename_i hd
      simp only [Option.some.injEq, Prod.mk.injEq] at h
      obtain ⟨rfl, rfl⟩ := h
      exact ⟨_, fun w => run_eql_plain ox oy (by simp) (by simp) trivial trivial rfl rfl (run_equal_slice_nil hd _ _ _ _ _), .bool _ _ _⟩
    · rename_i hd
      simp only [Option.some.injEq, Prod.mk.injEq] at h
      obtain ⟨rfl, rfl⟩ := h
      exact ⟨_, fun w => run_neq_plain ox oy (by simp) (by simp) trivial trivial rfl rfl (run_equal_slice_nil hd _ _ _ _ _), .bool _ _ _⟩
    · simp at h
  · have hsl : ∃ p n m, va = .slice (some p) n m := by
      cases ha with
      | lst0 _ _ _ _ _ _ a cap h1 h2 h3 =>
        obtain ⟨p, hp⟩ := Option.isSome_iff_exists.1 (h3 rfl)
        exact ⟨p, _, _, by rw [hp]⟩
      | lst _ _ _ _ _ _ p o cap c h1 h2 hc hm h3 h4 => exact ⟨_, _, _, rfl⟩
    obtain ⟨p, n, m, rfl⟩ := hsl
    cases hb
    split at h
    · rename_i hd
      simp only [Option.some.injEq, Prod.mk.injEq] at h
      obtain ⟨rfl, rfl⟩ := h
      exact ⟨_, fun w => run_eql_plain ox oy (by simp) (by simp) trivial trivial rfl rfl (run_equal_slice_some hd _ _ _ _ _), .bool _ _ _⟩
    · rename_i hd
      simp only [Option.some.injEq, Prod.mk.injEq] at h
      obtain ⟨rfl, rfl⟩ := h
      exact ⟨_, fun w => run_neq_plain ox oy (by simp) (by simp) trivial trivial rfl rfl (run_equal_slice_some hd _ _ _ _ _), .bool _ _ _⟩
    · simp at h
  · split at h
    · rename_i hp hd
      simp only [Option.some.injEq, Prod.mk.injEq] at h
      obtain ⟨rfl, rfl⟩ := h
      obtain ⟨p, rfl⟩ := ptrA_of hp ha
      cases hb
      exact ⟨_, fun w => run_eql_plain ox oy (by simp) (by simp) trivial trivial rfl rfl (run_equal_ptr_nil hd _), .bool _ _ _⟩
    · rename_i hp hd
      simp only [Option.some.injEq, Prod.mk.injEq] at h
      obtain ⟨rfl, rfl⟩ := h
      obtain ⟨p, rfl⟩ := ptrA_of hp ha
      cases hb
      exact ⟨_, fun w => run_neq_plain ox oy (by simp) (by simp) trivial trivial rfl rfl (run_equal_ptr_nil hd _), .bool _ _ _⟩
    · simp at h
  · split at h
    · rename_i hp hd
      simp only [Option.some.injEq, Prod.mk.injEq] at h
      obtain ⟨rfl, rfl⟩ := h
      obtain ⟨p, rfl⟩ := ptrA_of hp hb
      cases ha
      exact ⟨_, fun w => run_eql_plain ox oy (by simp) (by simp) trivial trivial rfl rfl (run_equal_nil hd _), .bool _ _ _⟩
    · rename_i hp hd
      simp only [Option.some.injEq, Prod.mk.injEq] at h
      obtain ⟨rfl, rfl⟩ := h
      obtain ⟨p, rfl⟩ := ptrA_of hp hb
      cases ha
      exact ⟨_, fun w => run_neq_plain ox oy (by simp) (by simp) trivial trivial rfl rfl (run_equal_nil hd _), .bool _ _ _⟩
    · simp at h
  · simp at h

theorem unA_ok {P : Program} {x : Ctx} {op : UnOp} {a r : A} {va : Value} (ha : RA x a va) (h : unA op a = some r) :
    ∃ v, (∀ w, (Op.unary op va).run P w = .ok v w) ∧ RA x r v := by
  unfold unA at h
  split at h
  · have := bool_of ha; subst this
    simp only [Option.some.injEq] at h; subst h
    exact ⟨_, fun w => by simp [Op.unary, go_sem], .bool _ _ _⟩
  · obtain ⟨rfl, hp⟩ := int_of ha
    simp only [Option.some.injEq] at h; subst h
    exact ⟨_, fun w => by simp [Op.unary, Op.intArith, go_sem], .int _ _ _ _ (inR_wrap _ _)⟩
  · obtain ⟨rfl, hp⟩ := int_of ha
    simp only [Option.some.injEq] at h; subst h
    exact ⟨_, fun w => by simp [Op.unary, Op.intBits, notI, go_sem], .int _ _ _ _ (inR_wrap _ _)⟩
  · simp at h
end Go.S3
