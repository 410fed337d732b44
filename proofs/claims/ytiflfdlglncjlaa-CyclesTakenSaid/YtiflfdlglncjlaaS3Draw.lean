/-
  Soundness of the symbolic executor, part 12: regions that draw their order. Conditions: none (lemmas).
-/
import Derived.Test.YtiflfdlglncjlaaS3Ctl
set_option linter.unusedSimpArgs false
set_option linter.unusedVariables false
namespace Go.S3

inductive Ty where
  | skip
  | free (v : V)
  | read (v : V) (rb : Option Nat)
  | chain (r : Res) (tb : Option Nat)
def Ty.isChain : Ty → Prop
  | .chain _ _ => True
  | _ => False
def Ty.isRead : Ty → Prop
  | .read _ _ => True
  | _ => False
def Ty.touch : Ty → Option Nat
  | .chain _ tb => tb
  | _ => none
def Ty.loc : Ty → Option Nat
  | .read _ rb => rb
  | _ => none
/-- Two operations that keep their order. -/
def Ty.bound (a b : Ty) : Prop := b.isChain ∧ a.isChain ∨ b.isChain ∧ a.isRead ∧ apartB b.touch a.loc = false ∨ b.isRead ∧ a.isChain ∧ apartB a.touch b.loc = false

/-- What a guard says in s; s1: s, with the guard's slot told. -/
def GuardR (ops : List Oper) (s : St) (g : Option (Nat × Bool)) (s1 : St) (w : Bool) : Prop :=
  match g with
  | none => s1 = s ∧ w = true
  | some (j, want) => ∃ o d, nth ops j = some o ∧ o.dst = some d ∧
      ((∃ b, nth s.slots d = some (.w (.one (.bool true b))) ∧ s1 = s ∧ w = (b == want)) ∨
       (∃ b, nth s.slots d = some (.w (.one (.bool false b))) ∧ s1 = put s (some d) (.w (.one (.bool true b))) ∧ w = (b == want)) ∨
       (nth s.slots d = some (.tup []) ∧ s1 = s ∧ w = false))

/-- One step in the text's order. -/
def StepOk (E : Env) (chg : Bool) (ops : List Oper) (s : St) (ty : Ty) (o : Oper) (s' : St) : Prop :=
  ∃ s1 w, GuardR ops s o.guard s1 w ∧ match ty with
    | .skip => w = false ∧ s' = put s1 o.dst undefV
    | .free v => w = true ∧ ∃ chk, freeRes E (!chg) (freeSt chg (mask s1 o)) o = some (chk, v) ∧ chk ≠ some false ∧ s' = put s1 o.dst v
    | .read v rb => w = true ∧ chg = true ∧ rb = localOf E (mask s1 o) o ∧ ∃ chk, freeRes E true (mask s1 o) o = some (chk, v) ∧ chk ≠ some false ∧ s' = put s1 o.dst v
    | .chain r tb => w = true ∧ chg = true ∧ tb = touchOf (mask s1 o) o ∧ (stepRes E (mask s1 o) o).val = some r ∧ r.chk ≠ some false ∧ s' = putRes s1 o.dst r

inductive Waits (ops : List Oper) (i : Nat) : Nat → Prop
  | one (j : Nat) (o : Oper) (e : Edge) (h : nth ops j = some o) (he : e ∈ o.after) (hb : Region.binds .any e = true) (hi : e.on = i) : Waits ops i j
  | more (j : Nat) (o : Oper) (e : Edge) (h : nth ops j = some o) (he : e ∈ o.after) (hb : Region.binds .any e = true) (hi : Waits ops i e.on) : Waits ops i j
theorem Waits.trans {ops : List Oper} {i j k : Nat} (h : Waits ops i j) (h' : Waits ops j k) : Waits ops i k := by
  induction h' with
  | one k o e h1 he hb hi => exact .more k o e h1 he hb (hi ▸ h)
  | more k o e h1 he hb hi ih => exact .more k o e h1 he hb ih
theorem emL_mem {i : Nat} : ∀ {l : List Edge}, tbit (emL l) i = true → ∃ e ∈ l, Region.binds .any e = true ∧ e.on = i
  | [], h => by simp [emL, tbit_zero] at h
  | e :: l, h => by
    simp only [emL] at h
    split at h
    · rename_i hb
      rw [tbit_setB, Bool.or_eq_true, Nat.beq_eq] at h
      rcases h with h | h
      · exact ⟨e, List.mem_cons_self, hb, h⟩
      · obtain ⟨e', h1, h2⟩ := emL_mem h
        exact ⟨e', List.mem_cons_of_mem _ h1, h2⟩
    · obtain ⟨e', h1, h2⟩ := emL_mem h
      exact ⟨e', List.mem_cons_of_mem _ h1, h2⟩
theorem emL_of {i : Nat} : ∀ {l : List Edge} {e : Edge}, e ∈ l → Region.binds .any e = true → e.on = i → tbit (emL l) i = true
  | [], e, h, _, _ => by simp at h
  | e' :: l, e, h, hb, hi => by
    simp only [emL]
    rcases List.mem_cons.1 h with rfl | h
    · rw [hb]; simp only; rw [tbit_setB, Bool.or_eq_true, Nat.beq_eq]; exact .inl hi
    · split
      · rw [tbit_setB, Bool.or_eq_true]; exact .inr (emL_of h hb hi)
      · exact emL_of h hb hi
theorem joinC_mem {q m : Nat} : ∀ {l : List Nat} {i : Nat}, tbit (joinC l i m) q = true → ∃ j c, nth l j = some c ∧ tbit m (i + j) = true ∧ tbit c q = true
  | [], i, h => by simp [joinC, tbit_zero] at h
  | c :: l, i, h => by
    simp only [joinC] at h
    split at h
    · rename_i hi
      rw [tbit_lor, Bool.or_eq_true] at h
      rcases h with h | h
      · exact ⟨0, c, rfl, hi, h⟩
      · obtain ⟨j, c', h1, h2, h3⟩ := joinC_mem h
        exact ⟨j + 1, c', h1, by rw [show i + (j + 1) = i + 1 + j by omega]; exact h2, h3⟩
    · obtain ⟨j, c', h1, h2, h3⟩ := joinC_mem h
      exact ⟨j + 1, c', h1, by rw [show i + (j + 1) = i + 1 + j by omega]; exact h2, h3⟩
theorem closures_go {ops : List Oper} : ∀ (l : List Oper) (acc : List Nat), (∀ k o, nth l k = some o → nth ops (acc.length + k) = some o) → (∀ j c q, nth acc j = some c → tbit c q = true → Waits ops q j) →
    ∀ j c q, nth (closures l acc) j = some c → tbit c q = true → Waits ops q j
  | [], acc, _, h, j, c, q, h1, h2 => h j c q h1 h2
  | o :: l, acc, hl, h, j, c, q, h1, h2 => by
    refine closures_go l _ (fun k o' hk => ?_) (fun j c q h1 h2 => ?_) j c q h1 h2
    · have := hl (k + 1) o' hk
      rw [List.length_append, List.length_singleton, Nat.add_assoc, Nat.add_comm 1]; exact this
    · rcases nth_append_cases h1 with h1 | ⟨rfl, rfl⟩
      · exact h j c q h1 h2
      · have ho : nth ops acc.length = some o := hl 0 o rfl
        rw [tbit_lor, Bool.or_eq_true] at h2
        rcases h2 with h2 | h2
        · obtain ⟨e, e1, e2, e3⟩ := emL_mem h2
          exact .one _ o e ho (by simpa using e1) e2 e3
        · obtain ⟨j', c', e1, e2, e3⟩ := joinC_mem h2
          rw [Nat.zero_add] at e2
          obtain ⟨e, f1, f2, f3⟩ := emL_mem e2
          have := h j' c' q e1 e3
          exact .more _ o e ho (by simpa using f1) f2 (f3 ▸ this)
theorem closures_ok {ops : List Oper} {i j : Nat} (h : rch (closures ops []) i j = true) : Waits ops i j := by
  unfold rch at h
  split at h
  · rename_i m hm
    exact closures_go ops [] (fun k o hk => by simpa using hk) (fun j c q h1 => by simp [nth_nil] at h1) j m i hm h
  · simp at h

theorem stop_k (s : St) : (stopT s).val.k = .stop := rfl
theorem chkT_val {c : Option Bool} {s : St} {t : RT Out} (h : (chkT c s t).val.k ≠ .stop) : c ≠ some false ∧ (chkT c s t).val = t.val := by
  cases c with
  | none => exact ⟨by simp, rfl⟩
  | some b =>
    cases b with
    | true => exact ⟨by simp, rfl⟩
    | false => exact absurd rfl h
theorem guardB_val {ops : List Oper} {s : St} {g : Option (Nat × Bool)} {run skip : St → RT Out} (h : (guardB ops s g run skip).val.k ≠ .stop) :
    ∃ s1 w, GuardR ops s g s1 w ∧ (guardB ops s g run skip).val = (match w with | true => run s1 | false => skip s1).val := by
  unfold guardB at h ⊢
  split
  · exact ⟨s, true, ⟨rfl, rfl⟩, rfl⟩
  · rename_i j want
    simp only at h
    split
    · rename_i o ho
      rw [ho] at h
      simp only at h
      split
      · rename_i d hd
        rw [hd] at h
        simp only at h
        split
        · rename_i b hs
          refine ⟨s, b == want, ⟨o, d, ho, hd, .inl ⟨b, hs, rfl, rfl⟩⟩, ?_⟩
          cases b == want <;> rfl
        · rename_i b hs
          refine ⟨_, b == want, ⟨o, d, ho, hd, .inr (.inl ⟨b, hs, rfl, rfl⟩)⟩, ?_⟩
          cases b <;> cases want <;> rfl
        · rename_i hs
          exact ⟨s, false, ⟨o, d, ho, hd, .inr (.inr ⟨hs, rfl, rfl⟩)⟩, rfl⟩
        · rename_i h1 h2 h3
          exfalso
          split at h
          · rename_i b hs; exact h1 b hs
          · rename_i b hs; exact h2 b hs
          · rename_i hs; exact h3 hs
          · exact h rfl
      · rename_i hd
        rw [hd] at h
        exact absurd rfl h
    · rename_i ho
      rw [ho] at h
      exact absurd rfl h

/-- What is known of the order of the operation number k behind the beginning. -/
structure Ord (ops : List Oper) (T : Nat → Ty) (i : Nat) (cs rs : List (Nat × Option Nat)) (k : Nat) : Prop where
  cc : ∀ q, q ∈ cs → (T (i + k)).isChain → Waits ops q.1 (i + k)
  cr : ∀ q, q ∈ cs → (T (i + k)).isRead → apartB q.2 (T (i + k)).loc = false → Waits ops q.1 (i + k)
  rc : ∀ q, q ∈ rs → (T (i + k)).isChain → apartB (T (i + k)).touch q.2 = false → Waits ops q.1 (i + k)
  bd : ∀ k', k' < k → (T (i + k')).bound (T (i + k)) → Waits ops (i + k') (i + k)
/-- The path through a drawn region in the text's order. -/
theorem path_of {E : Env} {chg : Bool} {cls : List Nat} {ops : List Oper} (hcls : ∀ q i, rch cls q i = true → Waits ops q i) : ∀ (rest : List Oper) (i : Nat) (cs rs : List (Nat × Option Nat)) (s : St), (evOpsD E chg cls ops rest i cs rs s).val.k ≠ .stop →
    ∃ (S : Nat → St) (T : Nat → Ty), S i = s ∧ (evOpsD E chg cls ops rest i cs rs s).val = ⟨.normal, S (i + rest.length)⟩ ∧ (∀ k o, nth rest k = some o → StepOk E chg ops (S (i + k)) (T (i + k)) o (S (i + k + 1))) ∧
      ∀ k, k < rest.length → Ord ops T i cs rs k
  | [], i, cs, rs, s, _ => ⟨fun _ => s, fun _ => .skip, rfl, rfl, fun k o h => by simp [nth_nil] at h, fun k h => by simp at h⟩
  | o :: rest, i, cs, rs, s, h => by
    simp only [evOpsD] at h ⊢
    obtain ⟨s1, w, hg, hv⟩ := guardB_val h
    rw [hv] at h ⊢
    -- the way on
    have fin : ∀ (ty : Ty) (s' : St) (cs' rs' : List (Nat × Option Nat)), StepOk E chg ops s ty o s' → (evOpsD E chg cls ops rest (i + 1) cs' rs' s').val.k ≠ .stop → (∀ q, q ∈ cs → q ∈ cs') → (∀ q, q ∈ rs → q ∈ rs') →
        (ty.isChain → (i, ty.touch) ∈ cs' ∧ (∀ q, q ∈ cs → Waits ops q.1 i) ∧ ∀ q, q ∈ rs → apartB ty.touch q.2 = false → Waits ops q.1 i) → (ty.isRead → (i, ty.loc) ∈ rs' ∧ ∀ q, q ∈ cs → apartB q.2 ty.loc = false → Waits ops q.1 i) →
        ∃ (S : Nat → St) (T : Nat → Ty), S i = s ∧ (evOpsD E chg cls ops rest (i + 1) cs' rs' s').val = ⟨.normal, S (i + (o :: rest).length)⟩ ∧ (∀ k o', nth (o :: rest) k = some o' → StepOk E chg ops (S (i + k)) (T (i + k)) o' (S (i + k + 1))) ∧
          ∀ k, k < (o :: rest).length → Ord ops T i cs rs k := by
      intro ty s' cs' rs' hst hk hcs hrs hch hrd
      obtain ⟨S, T, h1, h2, h3, h4⟩ := path_of hcls rest (i + 1) cs' rs' s' hk
      have hi1 : ∀ k, i + (k + 1) = i + 1 + k := fun k => by omega
      refine ⟨fun k => if k = i then s else S k, fun k => if k = i then ty else T k, if_pos rfl, ?_, fun k o' hk' => ?_, fun k hk' => ?_⟩
      · rw [h2]
        show _ = Out.mk .normal (if i + (o :: rest).length = i then s else S (i + (o :: rest).length))
        rw [if_neg (by simp), List.length_cons, hi1 rest.length]
      · cases k with
        | zero =>
          simp only [nth, Option.some.injEq] at hk'; subst hk'
          have e1 : (if i + 0 = i then s else S (i + 0)) = s := if_pos rfl
          have e2 : (if i + 0 = i then ty else T (i + 0)) = ty := if_pos rfl
          have e3 : (if i + 0 + 1 = i then s else S (i + 0 + 1)) = s' := by rw [if_neg (by omega)]; exact h1
          simp only [e1, e2, e3]; exact hst
        | succ k =>
          have := h3 k o' hk'
          show StepOk E chg ops (if i + (k + 1) = i then s else S (i + (k + 1))) (if i + (k + 1) = i then ty else T (i + (k + 1))) o' (if i + (k + 1) + 1 = i then s else S (i + (k + 1) + 1))
          rw [if_neg (by omega), if_neg (by omega), if_neg (by omega), hi1 k]; exact this
      · have t0 : (if i + 0 = i then ty else T (i + 0)) = ty := if_pos rfl
        have ts : ∀ k, (if i + (k + 1) = i then ty else T (i + (k + 1))) = T (i + 1 + k) := fun k => by rw [if_neg (by omega), hi1 k]
        cases k with
        | zero =>
          refine ⟨fun q hq hc => ?_, fun q hq hc ha => ?_, fun q hq hc ha => ?_, fun k' hk' => by omega⟩
          · simp only [t0] at hc; exact (hch hc).2.1 q hq
          · simp only [t0] at hc ha; exact (hrd hc).2 q hq ha
          · simp only [t0] at hc ha; exact (hch hc).2.2 q hq ha
        | succ k =>
          have q := h4 k (by simpa using hk')
          refine ⟨fun p hp hc => ?_, fun p hp hc ha => ?_, fun p hp hc ha => ?_, fun k' hk'' hb => ?_⟩
          · simp only [ts] at hc; rw [hi1 k]; exact q.cc p (hcs p hp) hc
          · simp only [ts] at hc ha; rw [hi1 k]; exact q.cr p (hcs p hp) hc ha
          · simp only [ts] at hc ha; rw [hi1 k]; exact q.rc p (hrs p hp) hc ha
          · rw [hi1 k]
            cases k' with
            | zero =>
              simp only [t0, ts] at hb
              rcases hb with ⟨h1, h2⟩ | ⟨h1, h2, h3⟩ | ⟨h1, h2, h3⟩
              · exact q.cc _ (hch h2).1 h1
              · exact q.rc _ (hrd h2).1 h1 h3
              · exact q.cr _ (hch h2).1 h1 h3
            | succ k' =>
              simp only [ts] at hb
              rw [hi1 k']
              exact q.bd k' (by omega) hb
    cases w with
    | false =>
      simp only at h ⊢
      exact fin .skip _ cs rs ⟨s1, false, hg, rfl, rfl⟩ h (fun _ h => h) (fun _ h => h) (fun h => h.elim) (fun h => h.elim)
    | true =>
      simp only at h ⊢
      split at h
      · rename_i chk v hfr
        obtain ⟨q1, q2⟩ := chkT_val h
        rw [q2] at h ⊢
        exact fin (.free v) _ cs rs ⟨s1, true, hg, rfl, chk, hfr, q1, rfl⟩ h (fun _ h => h) (fun _ h => h) (fun h => h.elim) (fun h => h.elim)
      · rename_i hfr
        split at h
        · split at h
          · rename_i chk v hfr2
            split at h
            · rename_i hall
              obtain ⟨q1, q2⟩ := chkT_val h
              rw [q2] at h ⊢
              refine fin (.read v _) _ cs (_ :: rs) ⟨s1, true, hg, rfl, rfl, rfl, chk, hfr2, q1, rfl⟩ h (fun _ h => h) (fun _ h => List.mem_cons_of_mem _ h) (fun h => h.elim) (fun _ => ⟨List.mem_cons_self, fun q hq ha => ?_⟩)
              have := List.all_eq_true.1 hall q hq
              simp only [Ty.loc] at ha
              rw [ha, Bool.false_or] at this
              exact hcls _ _ this
            · exact absurd rfl h
          · split at h
            · rename_i hall
              simp only [Bool.and_eq_true] at hall
              simp only [RT.val_bind] at h ⊢
              cases hr : (stepRes E (mask s1 o) o).val with
              | none => rw [hr] at h; exact absurd rfl h
              | some r =>
                rw [hr] at h
                simp only [contT] at h ⊢
                obtain ⟨q1, q2⟩ := chkT_val h
                rw [q2] at h ⊢
                refine fin (.chain r _) _ (_ :: cs) rs ⟨s1, true, hg, rfl, rfl, rfl, hr, q1, rfl⟩ h (fun _ h => List.mem_cons_of_mem _ h) (fun _ h => h) (fun _ => ⟨List.mem_cons_self, fun q hq => hcls _ _ (List.all_eq_true.1 hall.1 q hq), fun q hq ha => ?_⟩) (fun h => h.elim)
                have := List.all_eq_true.1 hall.2 q hq
                simp only [Ty.touch] at ha
                rw [ha, Bool.false_or] at this
                exact hcls _ _ this
            · exact absurd rfl h
        · exact absurd rfl h

/-! ### facts of the edges -/
theorem lmL_of {t : Nat} : ∀ {l : List Nat}, t ∈ l → tbit (lmL l) t = true
  | [], h => by simp at h
  | a :: l, h => by
    simp only [lmL, tbit_setB, Bool.or_eq_true, Nat.beq_eq]
    rcases List.mem_cons.1 h with h | h
    · exact .inl h.symm
    · exact .inr (lmL_of h)
theorem lookM_of {ops : Array Oper} {o : Oper} {t : Nat} (h : t ∈ o.looksAt ops) : tbit (lookM ops.toList o) t = true := by
  unfold Oper.looksAt at h
  have hl : t ∈ looks o → tbit (lmL (looks o)) t = true := lmL_of
  unfold lookM
  rcases List.mem_append.1 h with h | h
  · have := hl h
    split
    · split
      · split
        · rw [tbit_setB, this, Bool.or_true]
        · exact this
      · exact this
    · exact this
  · split
    · rename_i g _ hg
      rw [hg] at h
      simp only [nth_eq, Array.getElem?_toList] at h ⊢
      cases hq : ops[g]? with
      | none => rw [hq] at h; simp at h
      | some q =>
        rw [hq] at h
        simp only [Option.bind_some] at h ⊢
        cases hd : q.dst with
        | none => rw [hd] at h; simp at h
        | some d =>
          rw [hd] at h
          simp at h; subst h
          simp only; rw [tbit_setB]; simp
    · rename_i hg
      rw [hg] at h; simp at h
theorem apartI_of {ops : Array Oper} {a b : Oper} (h : apartI ⟨a.dst, lookM ops.toList a, emL a.after.toList⟩ ⟨b.dst, lookM ops.toList b, emL b.after.toList⟩ = true) : a.apart ops b = true := by
  simp only [apartI, Bool.and_eq_true, Bool.not_eq_true'] at h
  obtain ⟨⟨h1, h2⟩, h3⟩ := h
  unfold Oper.apart
  rw [Bool.and_eq_true]
  constructor
  · cases hd : a.dst with
    | none => rfl
    | some d =>
      rw [hd] at h1 h2
      simp only [Bool.and_eq_true, Bool.not_eq_true', bne_iff_ne, ne_eq]
      constructor
      · rw [Bool.eq_false_iff]; intro hc
        rw [List.contains_iff_mem] at hc
        have := lookM_of hc
        simp only [dstIn] at h1
        rw [this] at h1; simp at h1
      · intro e; rw [e] at h2; simp [dstEq] at h2
  · cases hd : b.dst with
    | none => rfl
    | some d =>
      rw [hd] at h3
      simp only [Bool.not_eq_true']
      rw [Bool.eq_false_iff]; intro hc
      rw [List.contains_iff_mem] at hc
      have := lookM_of hc
      simp only [dstIn] at h3
      rw [this] at h3; simp at h3
theorem infoL_nth {ops : List Oper} : ∀ {l : List Oper} {j : Nat} {o : Oper}, nth l j = some o → nth (infoL ops l) j = some ⟨o.dst, lookM ops o, emL o.after.toList⟩
  | [], j, o, h => by simp [nth_nil] at h
  | a :: l, 0, o, h => by simp only [nth, Option.some.injEq] at h; subst h; rfl
  | a :: l, j + 1, o, h => infoL_nth (l := l) h
theorem pairsI_nth {a : OI} {j : Nat} : ∀ {l : List OI} {k : Nat} {b : OI}, pairsI a j l = true → nth l k = some b → tbit b.em j = true ∨ apartI a b = true
  | [], k, b, _, h => by simp [nth_nil] at h
  | c :: l, 0, b, hp, h => by
    simp only [nth, Option.some.injEq] at h; subst h
    simp only [pairsI, Bool.and_eq_true, Bool.or_eq_true] at hp; exact hp.1
  | c :: l, k + 1, b, hp, h => by
    simp only [pairsI, Bool.and_eq_true] at hp
    exact pairsI_nth hp.2 h
theorem lexI_nth : ∀ {l : List OI} {i k : Nat} {a : OI}, lexI i l = true → nth l k = some a → a.em < 2 ^ (i + k) ∧ ∀ m b, k < m → nth l m = some b → tbit b.em (i + k) = true ∨ apartI a b = true
  | [], i, k, a, _, h => by simp [nth_nil] at h
  | c :: l, i, 0, a, hl, h => by
    simp only [nth, Option.some.injEq] at h; subst h
    simp only [lexI, Bool.and_eq_true, Nat.blt_eq] at hl
    refine ⟨?_, fun m b hm hb => ?_⟩
    · have := hl.1.1
      have e : Nat.shiftLeft 1 i = 2 ^ i := by
        have : Nat.shiftLeft 1 i = 1 <<< i := rfl
        rw [this, Nat.one_shiftLeft]
      rw [e] at this; simpa using this
    · cases m with
      | zero => omega
      | succ m => exact pairsI_nth hl.1.2 hb
  | c :: l, i, k + 1, a, hl, h => by
    simp only [lexI, Bool.and_eq_true] at hl
    obtain ⟨h1, h2⟩ := lexI_nth hl.2 h
    have e : i + (k + 1) = i + 1 + k := by omega
    rw [e]
    refine ⟨h1, fun m b hm hb => ?_⟩
    cases m with
    | zero => omega
    | succ m => exact h2 m b (by omega) hb
theorem lex_facts {ops : Array Oper} (h : lexL ops.toList = true) : ∀ j oj, ops[j]? = some oj → (∀ e ∈ oj.after, Region.binds .any e = true → e.on < j) ∧
    ∀ l ol, j < l → ops[l]? = some ol → (∀ e ∈ ol.after, Region.binds .any e = true → e.on ≠ j) → oj.apart ops ol = true := by
  intro j oj ho
  have ho' : nth ops.toList j = some oj := by rw [nth_eq]; simpa using ho
  obtain ⟨h1, h2⟩ := lexI_nth h (infoL_nth ho')
  rw [Nat.zero_add] at h1 h2
  refine ⟨fun e he hb => ?_, fun l ol hlt hol hno => ?_⟩
  · have := emL_of (l := oj.after.toList) (by simpa using he) hb rfl
    rcases Nat.lt_or_ge e.on j with h | h
    · exact h
    · exfalso
      rw [tbit_eq] at this
      have h3 : emL oj.after.toList < 2 ^ e.on := Nat.lt_of_lt_of_le h1 (Nat.pow_le_pow_right (by decide) h)
      rw [Nat.testBit_lt_two_pow h3] at this; simp at this
  · have hol' : nth ops.toList l = some ol := by rw [nth_eq]; simpa using hol
    rcases h2 l _ hlt (infoL_nth hol') with h3 | h3
    · exfalso
      obtain ⟨e, e1, e2, e3⟩ := emL_mem h3
      exact hno e (by simpa using e1) e2 e3
    · exact apartI_of h3
end Go.S3
