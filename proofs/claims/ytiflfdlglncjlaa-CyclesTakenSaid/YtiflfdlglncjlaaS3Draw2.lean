/-
  Soundness of the symbolic executor, part 13: a drawn region goes through in whatever order. Conditions: none (lemmas).
-/
import Derived.Test.YtiflfdlglncjlaaS3Draw
set_option linter.unusedSimpArgs false
set_option linter.unusedVariables false
namespace Go.S3

theorem yielded_of {ops : List Oper} {a : Act} {j d : Nat} {o : Oper} (h1 : nth ops j = some o) (h2 : o.dst = some d) :
    yielded ops.toArray a.tmps j = match a.tmps.getD d undef with | .bool b => some b | _ => none := by
  rw [nth_eq] at h1
  simp only [yielded, List.getElem?_toArray, h1, Option.bind_some, h2]
  rw [Array.getD_eq_getD_getElem?]
  cases a.tmps[d]? with
  | none => rfl
  | some v => cases v <;> rfl

theorem put_slots_len (s : St) (d : Option Nat) (v : V) : (put s d v).slots.length = s.slots.length := by cases d <;> simp [put, setN_eq]
theorem guardR_len {ops : List Oper} {s s1 : St} {g : Option (Nat × Bool)} {w : Bool} (h : GuardR ops s g s1 w) : s1.slots.length = s.slots.length ∧ s1.mem = s.mem := by
  unfold GuardR at h
  split at h
  · obtain ⟨rfl, _⟩ := h; exact ⟨rfl, rfl⟩
  · obtain ⟨o, d, _, _, h⟩ := h
    rcases h with ⟨b, _, rfl, _⟩ | ⟨b, _, rfl, _⟩ | ⟨_, rfl, _⟩
    · exact ⟨rfl, rfl⟩
    · exact ⟨put_slots_len _ _ _, rfl⟩
    · exact ⟨rfl, rfl⟩
/-- A guard's slot that is told says the same. -/
theorem guardR_slot {ops : List Oper} {s s1 : St} {g : Option (Nat × Bool)} {w : Bool} (h : GuardR ops s g s1 w) {x : Ctx} {t : Nat} {u : Value} (hu : ∀ v, nth s.slots t = some v → RV x v u) : ∀ v, nth s1.slots t = some v → RV x v u := by
  unfold GuardR at h
  split at h
  · obtain ⟨rfl, _⟩ := h; exact hu
  · obtain ⟨o, d, _, _, h⟩ := h
    rcases h with ⟨b, _, rfl, _⟩ | ⟨b, hb, rfl, _⟩ | ⟨_, rfl, _⟩
    · exact hu
    · intro v hv
      rcases nth_set hv with ⟨rfl, rfl, _⟩ | ⟨_, hv⟩
      · have := bool_of (show RA x (.bool false b) u from hu _ hb)
        subst this; exact .bool _ _ _
      · exact hu v hv
    · exact hu
theorem guardR_wanted {ops : List Oper} {s s1 : St} {o : Oper} {w : Bool} {a : Act} {x : Ctx} (h : GuardR ops s o.guard s1 w)
    (hu : ∀ j want oj d, o.guard = some (j, want) → nth ops j = some oj → oj.dst = some d → ∀ v, nth s.slots d = some v → RV x v (a.tmps.getD d undef)) : Region.wanted o (yielded ops.toArray a.tmps) = w := by
  unfold GuardR at h
  split at h
  · rename_i hg
    simp [Region.wanted, hg, h.2]
  · rename_i j want hg
    obtain ⟨oj, d, hj, hd, h⟩ := h
    have hy := yielded_of (a := a) hj hd
    have hw : Region.wanted o (yielded ops.toArray a.tmps) = ((match a.tmps.getD d undef with | .bool b => some b | _ => none) == some want) := by simp only [Region.wanted, hg, hy]
    have hu' := hu j want oj d hg hj hd
    rcases h with ⟨b, hb, _, rfl⟩ | ⟨b, hb, _, rfl⟩ | ⟨hb, _, rfl⟩
    · have := bool_of (show RA x (.bool true b) _ from hu' _ hb)
      rw [hw, this]; cases b <;> cases want <;> rfl
    · have := bool_of (show RA x (.bool false b) _ from hu' _ hb)
      rw [hw, this]; cases b <;> cases want <;> rfl
    · obtain ⟨C, hC, _⟩ := hu' _ hb
      rw [hw, hC]; rfl

theorem maskL_len (ts : List Nat) : ∀ (i : Nat) (l : List V), (maskL ts i l).length = l.length
  | _, [] => rfl
  | i, v :: l => by simp [maskL, maskL_len ts (i + 1) l]
theorem maskL_nth (ts : List Nat) : ∀ (i : Nat) (l : List V) (j : Nat) (v : V), nth (maskL ts i l) j = some v → (memN ts (i + j) = true ∧ nth l j = some v) ∨ v = .w .junk
  | _, [], j, v, h => by simp [maskL, nth_nil] at h
  | i, u :: l, 0, v, h => by
    simp only [maskL, nth, Option.some.injEq] at h
    split at h
    · rename_i hm; exact .inl ⟨by simpa using hm, by simp [nth, h]⟩
    · exact .inr h.symm
  | i, u :: l, j + 1, v, h => by
    simp only [maskL, nth] at h
    rcases maskL_nth ts (i + 1) l j v h with ⟨h1, h2⟩ | h1
    · exact .inl ⟨by rw [show i + (j + 1) = i + 1 + j by omega]; exact h1, h2⟩
    · exact .inr h1
theorem mask_rf {x : Ctx} {s : St} {o : Oper} {a : Act} (hs : s.slots.length = a.tmps.size) (h : ∀ t, t ∈ looks o → ∀ v, nth s.slots t = some v → RV x v (a.tmps.getD t undef)) : RF x (mask s o).slots a.tmps := by
  refine ⟨by simp only [mask, maskL_len]; exact hs, fun i v hv => ?_⟩
  rcases maskL_nth _ 0 _ i v hv with ⟨h1, h2⟩ | h1
  · rw [Nat.zero_add, memN_iff] at h1
    exact h i h1 v h2
  · subst h1; trivial

/-- What an operation that touches one box alone leaves as it is. -/
theorem touch_step {E : Env} {s : St} {o : Oper} {r : Res} {b' : Nat} (h : (stepRes E s o).val = some r) (ht : touchOf s o = some b') : s.mem.boxes.length ≤ r.m.boxes.length ∧ r.m.stgs = s.mem.stgs ∧ ∀ b, b ≠ b' → b < s.mem.boxes.length → nth r.m.boxes b = nth s.mem.boxes b := by
  have nb : ∀ (l : List A), (newBox s l).m.boxes = s.mem.boxes ++ [l] := fun l => rfl
  have app : ∀ (l : List A), s.mem.boxes.length ≤ (newBox s l).m.boxes.length ∧ (newBox s l).m.stgs = s.mem.stgs ∧ ∀ b, b ≠ b' → b < s.mem.boxes.length → nth (newBox s l).m.boxes b = nth s.mem.boxes b := fun l =>
    ⟨by rw [nb]; simp, rfl, fun b _ hb => by rw [nb, nth_eq, nth_eq, List.getElem?_append_left hb]⟩
  unfold touchOf at ht
  split at ht
  · rename_i t p x ho
    split at ht
    · rename_i b0 o0 hp
      simp only [Option.some.injEq] at ht; subst ht
      unfold stepRes at h
      rw [ho] at h
      simp only [RT.val, evOp, hp] at h
      split at h
      · rename_i p' l hp' _
        simp only [Option.some.injEq] at hp'; subst hp'
        simp only [storeA] at h
        split at h
        · simp at h
        · split at h
          · simp at h
          · split at h
            · simp at h
            · split at h
              · simp at h
              · simp only [Option.some.injEq] at h; subst h
                exact ⟨by simp [setN_eq], rfl, fun b hb _ => by rw [nth_set_ne (fun e => hb e.symm)]⟩
      · simp at h
    · simp at ht
  · rename_i t ho
    simp only [Option.some.injEq] at ht; subst ht
    unfold stepRes at h
    rw [ho] at h
    simp only [RT.val, evOp, Option.map_eq_some_iff] at h
    obtain ⟨l, _, rfl⟩ := h
    exact app l
  · rename_i t x ho
    simp only [Option.some.injEq] at ht; subst ht
    unfold stepRes at h
    rw [ho] at h
    simp only [RT.val, evOp, Option.map_eq_some_iff] at h
    obtain ⟨l, _, rfl⟩ := h
    exact app l
  · simp at ht
/-- A value that hangs on one box alone. -/
theorem local_free {E : Env} (hE : EnvOk E) {s : St} {o : Oper} {m' : Mem} {b : Nat} {chk : Option Bool} {v : V} (h : freeRes E true s o = some (chk, v)) (hl : localOf E s o = some b) :
    (∃ l, nth s.mem.boxes b = some l) ∧ (∃ p o', opd1 s p = some (.loc b o')) ∧ (nth m'.boxes b = nth s.mem.boxes b → m'.stgs = s.mem.stgs → freeRes E true { s with mem := m' } o = some (chk, v)) := by
  unfold localOf at hl
  split at hl
  · rename_i t p ho
    split at hl
    · rename_i b0 o0 hp
      simp only [Option.some.injEq] at hl; subst hl
      have hp' : ∀ m : Mem, opd1 { s with mem := m } p = some (.loc b0 o0) := fun m => by
        have : opd1 { s with mem := m } p = opd1 s p := by unfold opd1; cases p <;> rfl
        rw [this]; exact hp
      unfold freeRes stepRes at h ⊢
      rw [ho] at h ⊢
      simp only [chgOp, frzOp, readOp, Bool.not_false, Bool.and_true, Bool.true_or, evOp, hp, loadA, cellsAt, Bool.or_true] at h
      cases hn : nth s.mem.boxes b0 with
      | none => rw [hn] at h; simp at h
      | some l =>
        refine ⟨⟨l, rfl⟩, ⟨p, o0, hp⟩, fun hm _ => ?_⟩
        rw [hn] at h
        simp only [chgOp, frzOp, readOp, Bool.not_false, Bool.and_true, Bool.true_or, evOp, hp', loadA, cellsAt, hm, Bool.or_true]
        simp only [Option.map_some] at h ⊢
        split at h
        · rename_i r hr
          split at hr
          · rename_i w hw
            simp only [valR, RT.leaf.injEq, Option.some.injEq] at hr; subst hr
            simp only [Option.some.injEq, Prod.mk.injEq] at h
            obtain ⟨rfl, rfl⟩ := h
            rfl
          · simp at hr
        · simp at h
    · simp at hl
  · rename_i c ho
    split at hl
    · rename_i f hcf
      split at hl
      · rename_i g hg
        have hos : ∀ (l : List Operand), opds { s with mem := m' } l = opds s l := fun l => by
          induction l with
          | nil => rfl
          | cons x l ih =>
            simp only [opds, ih]
            have : opd { s with mem := m' } x = opd s x := by cases x <;> rfl
            rw [this]
        cases hvs : opds s c.args.toList with
        | none => rw [hvs] at hl; simp [localArgs] at hl
        | some vs =>
          rw [hvs] at hl
          unfold localArgs at hl
          split at hl
          · rename_i b0 o0 l e
            simp only [Option.some.injEq] at e
            split at hl
            · rename_i hall
              simp only [Option.some.injEq] at hl
              subst hl
              subst e
              simp only [Bool.and_eq_true, List.all_eq_true, Nat.blt_eq] at hall
              have hcal : ∀ m : Mem, calleeOf E { s with mem := m } c = some (.read g, []) := fun m => by
                unfold calleeOf; rw [hcf]; simp only [opd1, opd, Option.bind_some, V.one, hg, List.map_nil]
              obtain ⟨p, ps, hps⟩ : ∃ p ps, c.args.toList = p :: ps := by
                cases hc : c.args.toList with
                | nil => rw [hc] at hvs; simp [opds] at hvs
                | cons p ps => exact ⟨p, ps, rfl⟩
              have hp : opd1 s p = some (.loc b0 o0) := by
                rw [hps] at hvs
                simp only [opds] at hvs
                split at hvs
                · rename_i v r hv hr
                  simp only [Option.some.injEq, List.cons.injEq] at hvs
                  unfold opd1; rw [hv, hvs.1]; rfl
                · simp at hvs
              have hb : ∃ l, nth s.mem.boxes b0 = some l := ⟨_, by rw [nth_eq]; exact List.getElem?_eq_getElem (by simpa [len_eq] using hall.2)⟩
              refine ⟨hb, ⟨p, o0, hp⟩, fun hm hst => ?_⟩
              have hloc : LocalG g := by
                have := hE f _ hg
                exact this.2.1
              have hs0 : calleeOf E s c = some (.read g, []) := hcal s.mem
              unfold freeRes at h ⊢
              rw [ho] at h ⊢
              have hc1 : chgOp E (.call c) = false := by simp [chgOp, hcf, hg]
              have hc2 : readOp E (.call c) = true := by simp [readOp, hcf, hg]
              have hc3 : ∀ m : Mem, (opds { s with mem := m } c.args.toList = opds s c.args.toList) → frzOp E { s with mem := m } (.call c) = true := fun m hm => by
                simp only [frzOp, hcf, hcal m, hm, hvs]
              have hc4 : frzOp E s (.call c) = true := hc3 s.mem rfl
              simp only [hc1, hc2, hc4, hc3 m' (hos _), Bool.not_false, Bool.true_and, Bool.true_or] at h ⊢
              unfold stepRes at h ⊢
              rw [ho] at h ⊢
              simp only [hcf, hs0, hcal m', hvs, hos] at h ⊢
              cases hgm : g (V.w (.one (.loc b0 o0)) :: l ++ []) s.mem with
              | none => rw [hgm] at h; simp at h
              | some q =>
                have := hloc _ _ m' _ hgm hst (fun b o hbo => by
                  simp only [List.append_nil, List.mem_cons] at hbo
                  rcases hbo with e | e
                  · simp only [V.w.injEq, W.one.injEq, A.loc.injEq] at e
                    rw [e.1]; exact hm
                  · have := hall.1 _ e
                    simp [noLoc] at this)
                rw [this]
                rw [hgm] at h
                exact h
            · simp at hl
          · simp at hl
      · simp at hl
    · simp at hl
  · simp at hl

section
variable {E : Env} {chg : Bool} {A : Array Oper} {S : Nat → St} {T : Nat → Ty}

def Listed (listed : Array Bool) (i : Nat) : Prop := listed.getD i false = true

/-- The state behind some operations. -/
structure Inv (A : Array Oper) (S : Nat → St) (T : Nat → Ty) (x0 : Ctx) (w0 : World) (x : Ctx) (listed : Array Bool) (a : Act) (w : World) : Prop where
  size : listed.size = A.size
  closed : ∀ j oj, A[j]? = some oj → Listed listed j → ∀ e ∈ oj.after, Region.binds .any e = true → Listed listed e.on
  fr : a.tmps.size = (S 0).slots.length
  d : a.defers = []
  r : ∃ x' kc, kc ≤ A.size ∧ (∀ c, c < A.size → (T c).isChain → (c < kc ↔ Listed listed c)) ∧ MemOk x' (S kc).mem w ∧ Ext x0 x' ∧ ExtM x x' ∧ Step x0 w0 w ∧
    ∀ t k v, k ≤ A.size → (∀ i oi, A[i]? = some oi → oi.dst = some t → (i < k ↔ Listed listed i)) → nth (S k).slots t = some v → RV x' v (a.tmps.getD t undef)

theorem stepOk_len {s s' : St} {ty : Ty} {o : Oper} (h : StepOk E chg A.toList s ty o s') : s'.slots.length = s.slots.length := by
  obtain ⟨s1, w, hg, h⟩ := h
  have := (guardR_len hg).1
  cases ty with
  | skip => obtain ⟨_, rfl⟩ := h; rw [put_slots_len, this]
  | free v => obtain ⟨_, _, _, _, rfl⟩ := h; rw [put_slots_len, this]
  | read v rb => obtain ⟨_, _, _, _, _, _, rfl⟩ := h; rw [put_slots_len, this]
  | chain r tb => obtain ⟨_, _, _, _, _, rfl⟩ := h; rw [putRes, put_slots_len]; exact this
theorem stepOk_mem {s s' : St} {ty : Ty} {o : Oper} (h : StepOk E chg A.toList s ty o s') (hc : ¬ ty.isChain) : s'.mem = s.mem := by
  obtain ⟨s1, w, hg, h⟩ := h
  have := (guardR_len hg).2
  cases ty with
  | skip => obtain ⟨_, rfl⟩ := h; rw [put_mem, this]
  | free v => obtain ⟨_, _, _, _, rfl⟩ := h; rw [put_mem, this]
  | read v rb => obtain ⟨_, _, _, _, _, _, rfl⟩ := h; rw [put_mem, this]
  | chain r tb => exact absurd trivial hc
theorem put_slot_ne {s : St} {d : Option Nat} {v : V} {t : Nat} (h : d ≠ some t) : nth (put s d v).slots t = nth s.slots t := by
  cases d with
  | none => rfl
  | some d => exact nth_set_ne (fun e => h (by rw [e]))
theorem stepOk_slot {s s' : St} {ty : Ty} {o : Oper} (h : StepOk E chg A.toList s ty o s') {t : Nat} (ht : o.dst ≠ some t) {x : Ctx} {u : Value} (hu : ∀ v, nth s.slots t = some v → RV x v u) : ∀ v, nth s'.slots t = some v → RV x v u := by
  obtain ⟨s1, w, hg, h⟩ := h
  have h1 := guardR_slot hg hu
  cases ty with
  | skip => obtain ⟨_, rfl⟩ := h; intro v hv; rw [put_slot_ne ht] at hv; exact h1 v hv
  | free v => obtain ⟨_, _, _, _, rfl⟩ := h; intro v hv; rw [put_slot_ne ht] at hv; exact h1 v hv
  | read v rb => obtain ⟨_, _, _, _, _, _, rfl⟩ := h; intro v hv; rw [put_slot_ne ht] at hv; exact h1 v hv
  | chain r tb => obtain ⟨_, _, _, _, _, rfl⟩ := h; intro v hv; rw [putRes, put_slot_ne ht] at hv; exact h1 v hv

variable (hst : ∀ k o, A[k]? = some o → StepOk E chg A.toList (S k) (T k) o (S (k + 1)))
include hst

theorem lens : ∀ k, k ≤ A.size → (S k).slots.length = (S 0).slots.length
  | 0, _ => rfl
  | k + 1, h => by
    obtain ⟨o, ho⟩ : ∃ o, A[k]? = some o := ⟨_, Array.getElem?_eq_getElem (by omega)⟩
    rw [stepOk_len (hst k o ho), lens k (by omega)]
theorem mem_eq {k k' : Nat} (hk : k ≤ k') (hk' : k' ≤ A.size) (h : ∀ c, k ≤ c → c < k' → ¬ (T c).isChain) : (S k').mem = (S k).mem := by
  induction k' with
  | zero => have : k = 0 := by omega
            subst this; rfl
  | succ n ih =>
    by_cases e : k = n + 1
    · subst e; rfl
    · obtain ⟨o, ho⟩ : ∃ o, A[n]? = some o := ⟨_, Array.getElem?_eq_getElem (by omega)⟩
      rw [stepOk_mem (hst n o ho) (h n (by omega) (by omega)), ih (by omega) (by omega) (fun c h1 h2 => h c h1 (by omega))]
theorem box_eq {b k k' : Nat} (hk : k ≤ k') (hk' : k' ≤ A.size) (hb : b < (S k).mem.boxes.length) (h : ∀ c, k ≤ c → c < k' → (T c).isChain → apartB (T c).touch (some b) = true) :
    b < (S k').mem.boxes.length ∧ nth (S k').mem.boxes b = nth (S k).mem.boxes b ∧ (S k').mem.stgs = (S k).mem.stgs := by
  induction k' with
  | zero => have : k = 0 := by omega
            subst this; exact ⟨hb, rfl, rfl⟩
  | succ n ih =>
    by_cases e : k = n + 1
    · subst e; exact ⟨hb, rfl, rfl⟩
    · obtain ⟨o, ho⟩ : ∃ o, A[n]? = some o := ⟨_, Array.getElem?_eq_getElem (by omega)⟩
      obtain ⟨h1, h2, h3⟩ := ih (by omega) (by omega) (fun c h1 h2 => h c h1 (by omega))
      rcases Classical.em (T n).isChain with hc | hc
      · have ha := h n (by omega) (by omega) hc
        obtain ⟨s1, w, hg, hty⟩ := hst n o ho
        cases hT : T n with
        | chain r tb =>
          rw [hT] at hty ha
          obtain ⟨_, _, htb, hres, _, hS⟩ := hty
          have hm1 : (mask s1 o).mem = (S n).mem := (guardR_len hg).2
          cases tb with
          | none => simp [Ty.touch, apartB] at ha
          | some b' =>
            obtain ⟨q1, q3, q2⟩ := touch_step hres htb.symm
            rw [hm1] at q1 q2 q3
            have hne : b ≠ b' := by
              simp only [Ty.touch, apartB, Bool.not_eq_true'] at ha
              intro e; subst e; simp at ha
            have hSm : (S (n + 1)).mem = r.m := by rw [hS, putRes, put_mem]
            rw [hSm]
            exact ⟨by omega, by rw [q2 b hne h1, h2], by rw [q3, h3]⟩
        | skip => rw [hT] at hc; exact hc.elim
        | free _ => rw [hT] at hc; exact hc.elim
        | read _ _ => rw [hT] at hc; exact hc.elim
      · rw [stepOk_mem (hst n o ho) hc]; exact ⟨h1, h2, h3⟩
theorem slot_fwd {t k k' : Nat} (hk : k ≤ k') (hk' : k' ≤ A.size) (h : ∀ i oi, A[i]? = some oi → oi.dst = some t → ¬ (k ≤ i ∧ i < k')) {x : Ctx} {u : Value} (hu : ∀ v, nth (S k).slots t = some v → RV x v u) :
    ∀ v, nth (S k').slots t = some v → RV x v u := by
  induction k' with
  | zero => have : k = 0 := by omega
            subst this; exact hu
  | succ n ih =>
    by_cases e : k = n + 1
    · subst e; exact hu
    · obtain ⟨o, ho⟩ : ∃ o, A[n]? = some o := ⟨_, Array.getElem?_eq_getElem (by omega)⟩
      exact stepOk_slot (hst n o ho) (fun ht => h n o ho ht ⟨by omega, by omega⟩) (ih (by omega) (by omega) (fun i oi h1 h2 h3 => h i oi h1 h2 ⟨h3.1, by omega⟩))

variable (hE : EnvOk E) (hlex : lexL A.toList = true) (hch : ∀ k k', k < A.size → k' < k → (T k').bound (T k) → Waits A.toList k' k)
include hlex hch
omit hst hch in
/-- Two operations that name one slot, one of which writes it: the later one waits for the earlier one. -/
theorem edge_of {i j : Nat} {oi oj : Oper} (hi : A[i]? = some oi) (hj : A[j]? = some oj) (hlt : i < j) (h : oi.apart A oj = false) : ∃ e ∈ oj.after, Region.binds .any e = true ∧ e.on = i := by
  rcases Classical.em (∃ e ∈ oj.after, Region.binds .any e = true ∧ e.on = i) with h1 | h1
  · exact h1
  · have := (lex_facts hlex i oi hi).2 j oj hlt hj (fun e he hb hon => h1 ⟨e, he, hb, hon⟩)
    rw [h] at this; simp at this
omit hst hch hlex in
theorem not_apart_l {oi oj : Oper} {t : Nat} (h1 : oi.dst = some t) (h2 : t ∈ oj.looksAt A) : oi.apart A oj = false := by
  rw [Bool.eq_false_iff]; intro h
  exact (Oper.apart_spec h).1 t h1 h2
omit hst hch hlex in
theorem not_apart_r {oi oj : Oper} {t : Nat} (h1 : oj.dst = some t) (h2 : t ∈ oi.looksAt A) : oi.apart A oj = false := by
  rw [Bool.eq_false_iff]; intro h
  exact (Oper.apart_spec h).2.2 t h1 h2
omit hst hch hlex in
theorem not_apart_w {oi oj : Oper} {t : Nat} (h1 : oi.dst = some t) (h2 : oj.dst = some t) : oi.apart A oj = false := by
  rw [Bool.eq_false_iff]; intro h
  exact (Oper.apart_spec h).2.1 t h1 h2
omit hst hch hlex in
theorem waits_listed {listed : Array Bool} (hcl : ∀ j oj, A[j]? = some oj → Listed listed j → ∀ e ∈ oj.after, Region.binds .any e = true → Listed listed e.on) {i j : Nat} (h : Waits A.toList i j)
    (hj : ∀ oj, A[j]? = some oj → ∀ e ∈ oj.after, Region.binds .any e = true → Listed listed e.on) : Listed listed i := by
  induction h with
  | one j o e h1 he hb hi => exact hi ▸ hj o (by rw [nth_eq] at h1; simpa using h1) e he hb
  | more j o e h1 he hb hi ih =>
    refine ih fun oj hoj e' he' hb' => ?_
    exact hcl e.on oj hoj (hj o (by rw [nth_eq] at h1; simpa using h1) e he hb) e' he' hb'

include hE
/-- One operation that may come up. -/
theorem inv_step {x0 x : Ctx} {w0 : World} {Q : Exit → Act → World → Prop} {listed : Array Bool} {a : Act} {w : World} (inv : Inv A S T x0 w0 x listed a w) {j : Nat} (hready : j ∈ Region.ready .any A listed)
    {K : Act → World → Prop} (hK : ∀ a' w', Inv A S T x0 w0 x (listed.setIfInBounds j true) a' w' → K a' w') : wpOp E.P A Q j K a w := by
  obtain ⟨hun, oj, hj, hall⟩ := mem_ready.1 hready
  have hjlt : j < A.size := (Array.getElem?_eq_some_iff.1 hj).1
  have hunl : ¬ Listed listed j := by
    unfold Listed
    rw [Array.getD_eq_getD_getElem?, Array.getElem?_eq_getElem (by rw [inv.size]; exact hjlt)] at hun ⊢
    simp only [Option.getD_some] at hun ⊢
    rw [hun]; simp
  obtain ⟨x', kc, hkc, hkc2, hm, he, hxx, hstp, hslot⟩ := inv.r
  -- who else writes what j names
  have hwr : ∀ t, t ∈ oj.looksAt A ∨ oj.dst = some t → ∀ i oi, A[i]? = some oi → oi.dst = some t → i ≠ j → (i < j ↔ Listed listed i) := by
    intro t ht i oi hi hdi hne
    constructor
    · intro hlt
      obtain ⟨e, he, hb, hon⟩ := edge_of hlex hi hj hlt (by rcases ht with ht | ht; exact not_apart_l hdi ht; exact not_apart_w hdi ht)
      exact hon ▸ hall e he hb
    · intro hl
      rcases Nat.lt_or_ge i j with h | h
      · exact h
      · exfalso
        obtain ⟨e, he, hb, hon⟩ := edge_of hlex hj hi (by omega) (by rcases ht with ht | ht; exact not_apart_r hdi ht; exact not_apart_w ht hdi)
        exact hunl (hon ▸ inv.closed i oi hi hl e he hb)
  have hlook : ∀ t, t ∈ oj.looksAt A → ∀ v, nth (S j).slots t = some v → RV x' v (a.tmps.getD t undef) := by
    intro t ht v hv
    refine hslot t j v (by omega) (fun i oi hi hdi => ?_) hv
    by_cases hij : i = j
    · subst hij; exact ⟨fun h => by omega, fun h => absurd h hunl⟩
    · exact hwr t (.inl ht) i oi hi hdi hij
  obtain ⟨s1, wt, hg, hty⟩ := hst j oj hj
  have hlooks : ∀ t, t ∈ looks oj → t ∈ oj.looksAt A := by
    intro t ht
    unfold Oper.looksAt
    exact List.mem_append_left _ ht
  have hAj : nth A.toList j = some oj := by rw [nth_eq]; simpa using hj
  have hwanted : Region.wanted oj (yielded A a.tmps) = wt := by
    have := guardR_wanted (a := a) (x := x') hg (fun i want oi d hgd hi hd v hv => by
      refine hlook d ?_ v hv
      unfold Oper.looksAt
      refine List.mem_append_right _ ?_
      rw [nth_eq] at hi
      simp only [hgd]
      have hi' : A[i]? = some oi := by simpa using hi
      simp [hi', hd]) 
    simpa using this
  have hlen : (S j).slots.length = a.tmps.size := by rw [lens hst j (by omega), inv.fr]
  have hlen1 : s1.slots.length = a.tmps.size := by rw [(guardR_len hg).1, hlen]
  have hrf : RF x' (mask s1 oj).slots a.tmps := mask_rf hlen1 fun t ht => guardR_slot hg (hlook t (hlooks t ht))
  -- what is listed from now on
  have hl' : ∀ i, i < A.size → (Listed (listed.setIfInBounds j true) i ↔ i = j ∨ Listed listed i) := by
    intro i hi
    unfold Listed
    by_cases e : j = i
    · subst e
      simp [Array.getD_eq_getD_getElem?, inv.size, hi]
    · rw [getD_set_ne false e]
      exact ⟨fun h => .inr h, fun h => h.elim (fun h => absurd h.symm e) id⟩
  have hclosed' : ∀ i oi, A[i]? = some oi → Listed (listed.setIfInBounds j true) i → ∀ e ∈ oi.after, Region.binds .any e = true → Listed (listed.setIfInBounds j true) e.on := by
    intro i oi hi hl e he' hb
    have hon : Listed listed e.on := by
      rcases (hl' i (Array.getElem?_eq_some_iff.1 hi).1).1 hl with rfl | hl
      · have : oi = oj := by rw [hj] at hi; simpa using hi.symm
        subst this
        exact hall e he' hb
      · exact inv.closed i oi hi hl e he' hb
    exact getD_set_true hon
  -- the new state
  have fin : ∀ (x'' : Ctx) (u : Value) (v0 : V) (w' : World) (kc' : Nat), (∀ k, k = j + 1 → nth (S k).slots = nth (S (j + 1)).slots) → kc' ≤ A.size →
      (∀ c, c < A.size → (T c).isChain → (c < kc' ↔ Listed (listed.setIfInBounds j true) c)) → MemOk x'' (S kc').mem w' → Ext x' x'' → Step x' w w' →
      (∀ t, oj.dst = some t → ∀ v, nth (S (j + 1)).slots t = some v → RV x'' v u) → Inv A S T x0 w0 x (listed.setIfInBounds j true) (a.put oj.dst u) w' := by
    intro x'' u v0 w' kc' _ hkc' hkc2' hm' hx'' hst'' hres
    refine ⟨by simp [inv.size], hclosed', ?_, by rw [put_size]; exact inv.d, x'', kc', hkc', hkc2', hm', he.trans hx'', hxx.trans hx''.extM, hstp.trans hst'' he.own, ?_⟩
    · have : (a.put oj.dst u).tmps.size = a.tmps.size := by cases oj.dst <;> simp [Act.put]
      rw [this]; exact inv.fr
    · intro t k v hk hwt hv
      by_cases ht : oj.dst = some t
      · -- j's own slot
        have hjk : j < k := (hwt j oj hj ht).2 ((hl' j hjlt).2 (.inl rfl))
        have hval : (a.put oj.dst u).tmps.getD t undef = u := by
          have htl : t < a.tmps.size := by
            have := nth_lt hv
            rw [lens hst k hk, ← inv.fr] at this; exact this
          rw [ht]; simp [Act.put, Array.getD_eq_getD_getElem?, htl]
        rw [hval]
        refine slot_fwd hst (k := j + 1) (k' := k) (by omega) hk (fun i oi hi hdi hb => ?_) (hres t ht) v hv
        have h1 := (hwt i oi hi hdi).1 hb.2
        rcases (hl' i (Array.getElem?_eq_some_iff.1 hi).1).1 h1 with rfl | h1
        · omega
        · have := (hwr t (.inr ht) i oi hi hdi (by omega)).2 h1
          omega
      · have hval : (a.put oj.dst u).tmps.getD t undef = a.tmps.getD t undef := by
          cases hd : oj.dst with
          | none => rfl
          | some d =>
            have : d ≠ t := fun e => ht (by rw [hd, e])
            simp [Act.put, Array.getD_eq_getD_getElem?, this]
        rw [hval]
        refine (hslot t k v hk (fun i oi hi hdi => ?_) hv).mono hx''
        have hne : i ≠ j := fun e => by
          subst e
          have : oi = oj := by rw [hj] at hi; simpa using hi.symm
          subst this; exact ht hdi
        rw [hwt i oi hi hdi, hl' i (Array.getElem?_eq_some_iff.1 hi).1]
        exact ⟨fun h => h.elim (fun h => absurd h hne) id, .inr⟩
  have hkcN : ¬ (T j).isChain → ∀ c, c < A.size → (T c).isChain → (c < kc ↔ Listed (listed.setIfInBounds j true) c) := by
    intro hnc c hc hcc
    have hne : c ≠ j := fun e => hnc (e ▸ hcc)
    rw [hkc2 c hc hcc, hl' c hc]
    exact ⟨.inr, fun h => h.elim (fun h => absurd h hne) id⟩
  have hs1len : ∀ t v, nth (put s1 (some t) v).slots t = some v ∨ nth (put s1 (some t) v).slots t = none := by
    intro t v
    simp only [put]
    by_cases h : t < s1.slots.length
    · obtain ⟨q, hq⟩ := nth_ex h
      exact .inl (nth_set_self hq)
    · refine .inr ?_
      rw [nth_eq, setN_eq, List.getElem?_eq_none (by simp; omega)]
  have hdstv : ∀ (s2 : St) (v0 : V), s2.slots = s1.slots → ∀ t, oj.dst = some t → ∀ v, nth (put s2 oj.dst v0).slots t = some v → v = v0 := by
    intro s2 v0 hs2 t ht v hv
    rw [ht] at hv
    simp only [put] at hv
    rcases nth_set hv with ⟨_, e, _⟩ | ⟨h, _⟩
    · exact e
    · exact absurd rfl h
  -- the chain up to j
  have hbefore : ∀ c, c < A.size → (T c).isChain → (T c).bound (T j) → (T j).bound (T c) → (c < j ↔ Listed listed c) := by
    intro c hc' hcc hb1 hb2
    constructor
    · intro hlt
      refine waits_listed inv.closed (hch j c hjlt hlt hb1) fun o ho e he' hb => ?_
      have : o = oj := by rw [hj] at ho; simpa using ho.symm
      subst this; exact hall e he' hb
    · intro hl
      rcases Nat.lt_or_ge c j with h | h
      · exact h
      · exfalso
        have hne : c ≠ j := fun e => by subst e; exact hunl hl
        exact hunl (waits_listed inv.closed (hch c j hc' (by omega) hb2) fun o ho e he' hb => inv.closed c o ho hl e he' hb)
  have hmemj : (∀ c, c < A.size → (T c).isChain → (c < j ↔ Listed listed c)) → (mask s1 oj).mem = (S kc).mem := by
    intro hbef
    have e1 : (mask s1 oj).mem = (S j).mem := (guardR_len hg).2
    rw [e1]
    rcases Nat.le_total j kc with h | h
    · refine (mem_eq hst h hkc (fun c h1 h2 hcc => ?_)).symm
      have := (hbef c (by omega) hcc).2 ((hkc2 c (by omega) hcc).1 h2)
      omega
    · refine mem_eq hst h (by omega) (fun c h1 h2 hcc => ?_)
      have := (hkc2 c (by omega) hcc).2 ((hbef c (by omega) hcc).1 h2)
      omega
  unfold wpOp
  simp only [hj]
  cases hT : T j with
  | skip =>
    rw [hT] at hty
    obtain ⟨rfl, hS⟩ := hty
    rw [hwanted]
    refine hK _ _ (fin x' undef undefV w kc (fun _ _ => by simp_all) hkc (hkcN (by rw [hT]; exact fun h => h)) hm (Ext.refl x') (Step.refl x' w) (fun t ht v hv => ?_))
    rw [hS] at hv
    have := hdstv s1 undefV rfl t ht v hv
    subst this
    exact ⟨[], rfl, trivial⟩
  | free v0 =>
    rw [hT] at hty
    obtain ⟨rfl, chk, hfr, hc, hS⟩ := hty
    rw [hwanted]
    refine .inl ?_
    have hmc : chg = false → (mask s1 oj).mem = (S kc).mem := by
      intro hcg
      -- memory never changes
      have hno : ∀ c, ¬ (T c).isChain ∨ A.size ≤ c := by
        intro c
        by_cases hc : c < A.size
        · left
          intro hcc
          obtain ⟨o, ho⟩ : ∃ o, A[c]? = some o := ⟨_, Array.getElem?_eq_getElem hc⟩
          obtain ⟨_, _, _, h⟩ := hst c o ho
          cases hTc : T c with
          | skip => rw [hTc] at hcc; exact hcc
          | free _ => rw [hTc] at hcc; exact hcc
          | read _ _ => rw [hTc] at hcc; exact hcc
          | chain r tb => rw [hTc] at h; have := h.2.1; rw [hcg] at this; simp at this
        · right; omega
      have e1 : (mask s1 oj).mem = (S j).mem := (guardR_len hg).2
      have e2 : (S j).mem = (S kc).mem := by
        rcases Nat.le_total j kc with h | h
        · exact (mem_eq hst h hkc (fun c _ hc => (hno c).resolve_right (by omega))).symm
        · exact mem_eq hst h (by omega) (fun c _ hc => (hno c).resolve_right (by omega))
      rw [e1, e2]
    have hmr : MemR x' (freeSt chg (mask s1 oj)).mem w := by
      cases hcg : chg with
      | true => exact hm.toR.bare
      | false =>
        show MemR x' (mask s1 oj).mem w
        rw [hmc hcg]; exact hm.toR
    have hrf' : RF x' (freeSt chg (mask s1 oj)).slots a.tmps := by cases chg <;> exact hrf
    refine freeRes_ok hE hrf' hmr hm (fun hrd => by cases hcg : chg <;> rw [hcg] at hrd <;> simp at hrd; exact hmc hcg) hfr hc fun u w' x'' hv hm' hx'' hw' => hK _ _ ?_
    refine fin x'' u v0 w' kc (fun _ h => by rw [h]) hkc (hkcN (by rw [hT]; exact fun h => h)) hm' hx'' (hw'.step hm) (fun t ht v hv' => ?_)
    rw [hS] at hv'
    have := hdstv s1 v0 rfl t ht v hv'
    subst this; exact hv
  | read v0 rb =>
    rw [hT] at hty
    obtain ⟨rfl, hcg, hrb, chk, hfr, hc, hS⟩ := hty
    rw [hwanted]
    refine .inl ?_
    have hrj : (T j).isRead := by rw [hT]; trivial
    have hloc : (T j).loc = rb := by rw [hT]; rfl
    have e1 : (mask s1 oj).mem = (S j).mem := (guardR_len hg).2
    have hfr' : freeRes E true { mask s1 oj with mem := (S kc).mem } oj = some (chk, v0) := by
      cases hrb' : rb with
      | none =>
        have hmem := hmemj (fun c hc' hcc => hbefore c hc' hcc (.inr (.inr ⟨hrj, hcc, by rw [hloc, hrb']; cases (T c).touch <;> rfl⟩)) (.inr (.inl ⟨hcc, hrj, by rw [hloc, hrb']; cases (T c).touch <;> rfl⟩)))
        rw [← hmem]; exact hfr
      | some b =>
        rw [hrb'] at hrb
        obtain ⟨⟨l0, hl0⟩, ⟨p, o', hp⟩, hfin⟩ := local_free (m' := (S kc).mem) hE hfr hrb.symm
        refine (fun (q : _ ∧ _) => hfin q.1 q.2) ?_
        have hbj : b < (S j).mem.boxes.length := by rw [← e1]; exact nth_lt hl0
        have hbk : b < (S kc).mem.boxes.length := by
          have hv := opd1_ok hrf hp
          rw [← hm.ml]
          generalize a.eval p = u at hv
          cases hv with
          | loc _ _ _ q hq => exact nth_lt hq
        have hap : ∀ c, c < A.size → (T c).isChain → ¬ (c < j ↔ Listed listed c) → apartB (T c).touch (some b) = true := by
          intro c hc' hcc hn
          cases hap : apartB (T c).touch (some b) with
          | true => rfl
          | false => exact absurd (hbefore c hc' hcc (.inr (.inr ⟨hrj, hcc, by rw [hloc, hrb']; exact hap⟩)) (.inr (.inl ⟨hcc, hrj, by rw [hloc, hrb']; exact hap⟩))) hn
        rw [e1]
        rcases Nat.le_total j kc with h | h
        · refine (box_eq hst h hkc hbj (fun c h1 h2 hcc => hap c (by omega) hcc fun hi => ?_)).2
          have := hi.2 ((hkc2 c (by omega) hcc).1 h2)
          omega
        · refine (fun q => ⟨q.1.symm, q.2.symm⟩) (box_eq hst h (by omega) hbk (fun c h1 h2 hcc => hap c (by omega) hcc fun hi => ?_)).2
          have := (hkc2 c (by omega) hcc).2 (hi.1 h2)
          omega
    refine freeRes_ok hE (s := { mask s1 oj with mem := (S kc).mem }) hrf hm.toR hm (fun _ => rfl) hfr' hc fun u w' x'' hv hm' hx'' hw' => hK _ _ ?_
    refine fin x'' u v0 w' kc (fun _ h => by rw [h]) hkc (hkcN (by rw [hT]; exact fun h => h)) hm' hx'' (hw'.step hm) (fun t ht v hv' => ?_)
    rw [hS] at hv'
    have := hdstv s1 v0 rfl t ht v hv'
    subst this; exact hv
  | chain r tb =>
    rw [hT] at hty
    obtain ⟨rfl, hcg, htb, hres, hc, hS⟩ := hty
    rw [hwanted]
    refine .inl ?_
    have hcj : (T j).isChain := by rw [hT]; trivial
    have hbef := fun c hc' hcc => hbefore c hc' hcc (.inl ⟨hcj, hcc⟩) (.inl ⟨hcc, hcj⟩)
    have hmem := hmemj hbef
    refine stepRes_ok hE hrf inv.d (by rw [hmem]; exact hm) hres hc fun v w' x'' hv hm' hx'' hst'' => hK _ _ ?_
    have hSm : (S (j + 1)).mem = r.m := by rw [hS, putRes, put_mem]
    refine fin x'' v r.v w' (j + 1) (fun _ h => by rw [h]) (by omega) (fun c hc' hcc => ?_) (by rw [hSm]; exact hm') hx'' hst'' (fun t ht v' hv' => ?_)
    · rw [hl' c hc', ← hbef c hc' hcc]; omega
    · rw [hS] at hv'
      have := hdstv { s1 with mem := r.m, bd := r.bd, sd := r.sd } r.v rfl t ht v' hv'
      subst this; exact hv

def unlisted (A : Array Oper) (listed : Array Bool) : Nat := ((List.range A.size).filter fun i => !listed.getD i false).length

omit hst hlex hch hE in
theorem unlisted_step {listed : Array Bool} {j : Nat} (hs : listed.size = A.size) (hj : j < A.size) (h : listed.getD j false = false) : unlisted A (listed.setIfInBounds j true) < unlisted A listed := by
  unfold unlisted
  have key : ∀ l : List Nat, l.Nodup → j ∈ l → (l.filter fun i => !(listed.setIfInBounds j true).getD i false).length < (l.filter fun i => !listed.getD i false).length ∧
      True := by
    intro l
    induction l with
    | nil => intro _ h; simp at h
    | cons i l ih =>
      intro hnd hm
      refine ⟨?_, trivial⟩
      rw [List.nodup_cons] at hnd
      by_cases e : j = i
      · subst e
        have h1 : (listed.setIfInBounds j true).getD j false = true := by simp [Array.getD_eq_getD_getElem?, hs, hj]
        have h2 : (l.filter fun i => !(listed.setIfInBounds j true).getD i false) = (l.filter fun i => !listed.getD i false) := by
          apply List.filter_congr
          intro i hi
          rw [getD_set_ne false (fun e => by subst e; exact hnd.1 hi)]
        rw [List.filter_cons_of_neg (by simp [h1]), List.filter_cons_of_pos (by simp [h]), h2]
        simp
      · have hm' : j ∈ l := by simpa [e] using hm
        have := (ih hnd.2 hm').1
        have e1 : (listed.setIfInBounds j true).getD i false = listed.getD i false := getD_set_ne false e
        by_cases hb : listed.getD i false = true
        · rw [List.filter_cons_of_neg (by rw [e1, hb]; simp), List.filter_cons_of_neg (by rw [hb]; simp)]; exact this
        · rw [List.filter_cons_of_pos (by rw [e1]; simpa using hb), List.filter_cons_of_pos (by simpa using hb)]
          simpa using this
  exact (key _ List.nodup_range (by simpa using hj)).1

/-- Whatever order is picked. -/
theorem inv_any {x0 x : Ctx} {w0 : World} {Q : Exit → Act → World → Prop} (hQ : ∀ x' a w, RelH x0 w0 x' (S A.size) a w → ExtM x x' → Q .normal a w) : ∀ (fuel : Nat) (listed : Array Bool) (a : Act) (w : World),
    Inv A S T x0 w0 x listed a w → unlisted A listed ≤ fuel → wpAny E.P .any A Q fuel listed a w := by
  have all : ∀ listed a w, Inv A S T x0 w0 x listed a w → Region.ready .any A listed = [] → Q .normal a w := by
    intro listed a w inv hr
    -- all are listed
    have hall : ∀ j, j < A.size → Listed listed j := by
      intro j
      induction j using Nat.strongRecOn with
      | _ j ih =>
        intro hj
        rcases Classical.em (Listed listed j) with h | h
        · exact h
        · exfalso
          obtain ⟨oj, hoj⟩ : ∃ o, A[j]? = some o := ⟨_, Array.getElem?_eq_getElem hj⟩
          have : j ∈ Region.ready .any A listed := by
            refine mem_ready.2 ⟨?_, oj, hoj, fun e he hb => ih e.on ((lex_facts hlex j oj hoj).1 e he hb) ?_⟩
            · unfold Listed at h
              rw [Array.getD_eq_getD_getElem?, Array.getElem?_eq_getElem (by rw [inv.size]; exact hj)] at h ⊢
              simp only [Option.getD_some] at h ⊢
              simpa using h
            · have := (lex_facts hlex j oj hoj).1 e he hb; omega
          rw [hr] at this; simp at this
    obtain ⟨x', kc, hkc, hkc2, hm, he, hxx, hstp, hslot⟩ := inv.r
    have hm' : MemOk x' (S A.size).mem w := by
      rw [mem_eq hst hkc (Nat.le_refl _) (fun c h1 h2 hcc => by have := (hkc2 c h2 hcc).2 (hall c h2); omega)]; exact hm
    refine hQ x' a w ⟨⟨⟨by rw [lens hst A.size (Nat.le_refl _), inv.fr], fun i v hv => ?_⟩, hm', inv.d⟩, he, hstp⟩ hxx
    exact hslot i A.size v (Nat.le_refl _) (fun i' oi hi _ => ⟨fun h => hall i' h, fun _ => (Array.getElem?_eq_some_iff.1 hi).1⟩) hv
  intro fuel
  induction fuel with
  | zero =>
    intro listed a w inv hf
    have hr : Region.ready .any A listed = [] := by
      cases hr : Region.ready .any A listed with
      | nil => rfl
      | cons j l =>
        exfalso
        have hj : j ∈ Region.ready .any A listed := by rw [hr]; simp
        obtain ⟨hun, oj, hoj, _⟩ := mem_ready.1 hj
        have hlt := (Array.getElem?_eq_some_iff.1 hoj).1
        have := unlisted_step (A := A) inv.size hlt (by
          rw [Array.getD_eq_getD_getElem?, Array.getElem?_eq_getElem (by rw [inv.size]; exact hlt)] at hun ⊢
          simpa using hun)
        omega
    exact ⟨hr, all listed a w inv hr⟩
  | succ fuel ih =>
    intro listed a w inv hf
    refine ⟨fun hr => all listed a w inv hr, fun j hj => ?_⟩
    obtain ⟨hun, oj, hoj, _⟩ := mem_ready.1 hj
    have hlt := (Array.getElem?_eq_some_iff.1 hoj).1
    have := unlisted_step (A := A) inv.size hlt (by
      rw [Array.getD_eq_getD_getElem?, Array.getElem?_eq_getElem (by rw [inv.size]; exact hlt)] at hun ⊢
      simpa using hun)
    exact inv_step hst hE hlex hch inv hj fun a' w' inv' => ih _ a' w' inv' (by omega)
end

/-- A drawn region. -/
theorem drawn_ok {E : Env} (hE : EnvOk E) {x0 x : Ctx} {w0 w : World} {s : St} {a : Act} {A : Array Oper} {id : Nat} {chg : Bool} {Q : Exit → Act → World → Prop} (hP : E.P.follows .mixedOrders = true) (hlex : lexL A.toList = true)
    (hr : RelH x0 w0 x s a w) (h : Hold x0 w0 x Q (stopAt s (evOpsD E chg (closures A.toList []) A.toList A.toList 0 [] [] s).val)) : (Code.region id A true).wp E.P Q a w := by
  have hk : (evOpsD E chg (closures A.toList []) A.toList A.toList 0 [] [] s).val.k ≠ .stop := by
    intro hk
    unfold stopAt at h
    rw [hk] at h
    exact Hold.stop hr h
  obtain ⟨S, T, h1, h2, h3, h4⟩ := path_of (fun _ _ h => closures_ok h) A.toList 0 [] [] s hk
  simp only [Nat.zero_add] at h2 h3 h4
  have hlen : A.toList.length = A.size := by simp
  rw [hlen] at h2 h4
  rw [h2] at h
  simp only [stopAt] at h
  have hst : ∀ k o, A[k]? = some o → StepOk E chg A.toList (S k) (T k) o (S (k + 1)) := fun k o ho => h3 k o (by rw [nth_eq]; simpa using ho)
  refine wp_region_any hP (inv_any hst hE hlex (fun k k' hk hk' hb => by have := (h4 k hk).bd k' hk'; simp only [Nat.zero_add] at this; exact this hb) (x0 := x0) (x := x) (w0 := w0) (fun x' a' w' hr' hxx => ?_) A.size _ a _ ?_ ?_)
  · exact h x' a' w' hr' hxx
  · have hr' := hr.same (SameC.drew w)
    have hno : ∀ i, ¬ Listed (Array.replicate A.size false) i := by
      intro i hi
      unfold Listed at hi
      rw [Array.getD_eq_getD_getElem?, Array.getElem?_replicate] at hi
      split at hi <;> simp at hi
    refine ⟨by simp, fun j oj _ hl => absurd hl (hno j), by rw [h1]; exact hr.r.f.size.symm, hr.r.d, x, 0, Nat.zero_le _, fun c _ _ => ⟨fun h => by omega, fun h => absurd h (hno c)⟩, by rw [h1]; exact hr'.r.m, hr.e, ExtM.refl x, hr'.t, ?_⟩
    intro t k v hk' hwt hv
    refine slot_fwd hst (k := 0) (k' := k) (Nat.zero_le _) hk' (fun i oi hi hd hb => hno i ((hwt i oi hi hd).1 hb.2)) (fun v hv => ?_) v hv
    rw [h1] at hv
    exact hr.r.f.slot t v hv
  · unfold unlisted
    have := List.length_filter_le (fun i => !(Array.replicate A.size false).getD i false) (List.range A.size)
    simpa using this
end Go.S3
