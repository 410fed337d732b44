/-
  Soundness of the symbolic executor: '==' of structs and arrays. Conditions: none (lemmas).
-/
import Derived.Test.YtiflfdlglncjlaaS3Ev2
import Derived.DeepKeys
set_option linter.unusedSimpArgs false
set_option linter.unusedVariables false
namespace Go.S3

/-- A cell as a literal. -/
inductive RLit : A → Lit → Prop
  | bool (f b : Bool) : RLit (.bool f b) (.bool b)
  | int (f : Bool) (k : IntKind) (n : Int) : RLit (.int f k n) (.int k n)
def RLits : List A → List Lit → Prop
  | [], [] => True
  | a :: l, b :: r => RLit a b ∧ RLits l r
  | _, _ => False
theorem RLits.append : ∀ {l l' : List A} {r r' : List Lit}, RLits l r → RLits l' r' → RLits (l ++ l') (r ++ r')
  | [], _, [], _, _, h => h
  | _ :: _, _, _ :: _, _, h, h' => ⟨h.1, RLits.append h.2 h'⟩
  | [], _, _ :: _, _, h, _ => h.elim
  | _ :: _, _, [], _, h, _ => h.elim
theorem eqL_ok : ∀ {l r : List A} {a b : List Lit} {e : Bool}, eqL l r = some e → RLits l a → RLits r b → (e = true ↔ a = b)
  | [], [], a, b, e, h, ha, hb => by
    simp only [eqL, Option.some.injEq] at h; subst h
    cases a with
    | nil => cases b with
      | nil => simp
      | cons _ _ => exact hb.elim
    | cons _ _ => exact ha.elim
  | x :: l, y :: r, a, b, e, h, ha, hb => by
    cases a with
    | nil => exact ha.elim
    | cons p a =>
      cases b with
      | nil => exact hb.elim
      | cons q b =>
        simp only [eqL] at h
        split at h
        · rename_i e' he
          split at h
          · rename_i hk
            have := sameK_eq hk; subst this
            simp only [Option.some.injEq] at h; subst h
            have ih := eqL_ok he ha.2 hb.2
            cases ha.1; cases hb.1
            simp [ih]
          · simp at h
        · rename_i e' he
          simp only [Option.some.injEq] at h; subst h
          have ih := eqL_ok he ha.2 hb.2
          cases ha.1; cases hb.1
          simp [ih]
        · simp at h
  | [], _ :: _, _, _, _, h, _, _ => by simp [eqL] at h
  | _ :: _, [], _, _, _, h, _, _ => by simp [eqL] at h

variable {P : Program} {x : Ctx}
theorem kFields_ok {d : Nat} (ih : ∀ (t : TypeId) (l k : List A) (C : List Value), klT P d t l = some k → RL x l C → ∃ L, P.keyLits d t C = some L ∧ RLits k L) {l : List A} {C : List Value} (hl : RL x l C) :
    ∀ (fs : List Field) (k : List A), kFields (klT P d) P.cellsOf l fs = some k → ∃ Ls, (fs.mapM fun f => P.keyLits d f.type ((C.drop f.offset).take (P.cellsOf f.type))) = some Ls ∧ RLits k Ls.flatten
  | [], k, h => by
    simp only [kFields, Option.some.injEq] at h; subst h
    exact ⟨[], by simp, trivial⟩
  | f :: fs, k, h => by
    simp only [kFields] at h
    split at h
    · rename_i a b ha hb
      simp only [Option.some.injEq] at h; subst h
      obtain ⟨Ls, h1, h2⟩ := kFields_ok ih hl fs b hb
      rw [firstN_eq, dropN_eq] at ha
      obtain ⟨L, h3, h4⟩ := ih _ _ _ ((C.drop f.offset).take (P.cellsOf f.type)) ha ((hl.drop _).take _)
      exact ⟨L :: Ls, by simp [List.mapM_cons, h3, h1], by simpa using h4.append h2⟩
    · simp at h
theorem kItems_ok {d : Nat} {e : TypeId} (ih : ∀ (l k : List A) (C : List Value), klT P d e l = some k → RL x l C → ∃ L, P.keyLits d e C = some L ∧ RLits k L) {l : List A} {C : List Value} (hl : RL x l C) :
    ∀ (is : List Nat) (k : List A), kItems (klT P d e) (P.cellsOf e) l is = some k → ∃ Ls, (is.mapM fun i => P.keyLits d e ((C.drop (i * P.cellsOf e)).take (P.cellsOf e))) = some Ls ∧ RLits k Ls.flatten
  | [], k, h => by
    simp only [kItems, Option.some.injEq] at h; subst h
    exact ⟨[], by simp, trivial⟩
  | f :: fs, k, h => by
    simp only [kItems] at h
    split at h
    · rename_i a b ha hb
      simp only [Option.some.injEq] at h; subst h
      obtain ⟨Ls, h1, h2⟩ := kItems_ok ih hl fs b hb
      rw [firstN_eq, dropN_eq] at ha
      obtain ⟨L, h3, h4⟩ := ih _ _ ((C.drop (f * P.cellsOf e)).take (P.cellsOf e)) ha ((hl.drop _).take _)
      exact ⟨L :: Ls, by simp [List.mapM_cons, h3, h1], by simpa using h4.append h2⟩
    · simp at h
theorem klT_ok : ∀ (d : Nat) (t : TypeId) (l k : List A) (C : List Value), klT P d t l = some k → RL x l C → ∃ L, P.keyLits d t C = some L ∧ RLits k L
  | 0, _, _, _, _, h, _ => by simp [klT] at h
  | d + 1, t, l, k, C, h, hl => by
    unfold klT at h
    unfold Program.keyLits
    split at h
    · rename_i hu
      split at h
      · rename_i f b
        simp only [Option.some.injEq] at h; subst h
        match C, hl with
        | [v], hl =>
          have := bool_of hl.1; subst this
          exact ⟨[.bool b], by simp [hu], .bool _ _, trivial⟩
      · simp at h
    · rename_i q hu
      split at h
      · rename_i f q' n
        split at h
        · rename_i hq
          have := sameK_eq hq; subst this
          simp only [Option.some.injEq] at h; subst h
          match C, hl with
          | [v], hl =>
            obtain ⟨e1, e2⟩ := int_of hl.1; subst e1
            have hwf : (Lit.int q' n).wf = true := by simp only [Lit.wf, Bool.and_eq_true, decide_eq_true_eq]; exact e2
            exact ⟨[.int q' n], by simp [hu, hwf], .int _ _ _, trivial⟩
        · simp at h
      · simp at h
    · rename_i n e hu
      split at h
      · rename_i hlen
        simp only [Nat.beq_eq, len_eq] at hlen
        obtain ⟨Ls, h1, h2⟩ := kItems_ok (fun l k C h hl => klT_ok d e l k C h hl) hl _ _ h
        refine ⟨Ls.flatten, ?_, h2⟩
        simp only [hu]
        rw [if_pos (by rw [← hl.length]; exact hlen), h1]; rfl
      · simp at h
    · rename_i fs hu
      split at h
      · rename_i hlen
        simp only [Bool.and_eq_true, Nat.beq_eq, len_eq] at hlen
        obtain ⟨Ls, h1, h2⟩ := kFields_ok (fun t l k C h hl => klT_ok d t l k C h hl) hl _ _ h
        refine ⟨Ls.flatten, ?_, h2⟩
        simp only [hu]
        rw [if_pos ⟨by rw [← hl.length]; exact hlen.1, hlen.2⟩, h1]; rfl
      · simp at h
    · simp at h

theorem eqT_run {w : World} {t : TypeId} {l r : List A} {e : Bool} {C D : List Value} (h : eqT P t l r = some e) (hl : RL x l C) (hr : RL x r D) :
    (Op.equal t (.agg C.toArray) (.agg D.toArray)).run P w = .ok e w ∧ ∀ op ox oy, (eqGuard op t ox oy (.agg C.toArray) (.agg D.toArray)).run P w = .ok () w := by
  unfold eqT at h
  split at h
  · rename_i hk
    simp only [Bool.and_eq_true, Bool.not_eq_true', beq_iff_eq] at hk
    obtain ⟨⟨hk, hg⟩, hag⟩ := hk
    refine ⟨?_, fun op ox oy => ?_⟩
    · split at h
      · rename_i a b ha hb
        obtain ⟨La, h1, h2⟩ := klT_ok (x := x) 12 t l a C ha hl
        obtain ⟨Lb, h3, h4⟩ := klT_ok (x := x) 12 t r b D hb hr
        have hform : ∀ (l k : List A) (C : List Value), klT P 12 t l = some k → RL x l C → (Value.agg C.toArray).formed P t = true := by
          intro l k C hk hl
          unfold klT at hk
          unfold aggT at hag
          split at hk
          · rename_i hu; simp [hu] at hag
          · rename_i hu; simp [hu] at hag
          · rename_i hu
            split at hk
            · rename_i hlen
              simp only [Nat.beq_eq, len_eq] at hlen
              simp [Value.formed, hu, ← hl.length, hlen]
            · simp at hk
          · rename_i hu
            split at hk
            · rename_i hlen
              simp only [Bool.and_eq_true, Nat.beq_eq, len_eq] at hlen
              simp [Value.formed, hu, ← hl.length, hlen.1]
            · simp at hk
          · simp at hk
        obtain ⟨rr, q1, q2⟩ := run_equalIn_deep (P := P) 9988 12 t hk w 12 12 (.agg C.toArray) (.agg D.toArray) La Lb (hform _ _ _ ha hl) (hform _ _ _ hb hr) (by simpa [Value.cells] using h1) (by simpa [Value.cells] using h3)
        have he := eqL_ok h h2 h4
        have : rr = e := by
          cases rr <;> cases e <;> simp_all
        subst this
        exact q1
      · simp at h
    · cases op <;> simp [eqGuard, hg]
  · simp at h
end Go.S3
