/-
  Soundness of the symbolic executor, part 7: what a piece of code has not written it has not changed. Conditions: none (lemmas).
-/
import Derived.Test.YtghoimllhpjkjaaGreatS3C
import Derived.LoopN
import Derived.Deep.LoopGhost
set_option linter.unusedVariables false
set_option linter.unusedSimpArgs false
namespace Go.S3
def RT.All {α : Type} (p : α → Prop) : RT α → Prop
 | .leaf a => p a
 | .br _ t e => t.All p ∧ e.All p
theorem RT.All.val {α : Type} {p : α → Prop} : ∀ {t : RT α}, t.All p → p t.val
 | .leaf _, h => h
 | .br true _ _, h => h.1.val
 | .br false _ _, h => h.2.val
theorem RT.All.mono {α : Type} {p q : α → Prop} (h : ∀ a, p a → q a) : ∀ {t : RT α}, t.All p → t.All q
 | .leaf _, k => h _ k
 | .br _ _ _, k => ⟨k.1.mono h, k.2.mono h⟩
theorem RT.All.map {α β : Type} {p : β → Prop} {f : α → β} : ∀ {t : RT α}, t.All (fun a => p (f a)) → (t.map f).All p
 | .leaf _, k => k
 | .br _ _ _, k => ⟨k.1.map, k.2.map⟩
theorem RT.All.bind {α β : Type} {p : β → Prop} {f : α → RT β} : ∀ {t : RT α}, t.All (fun a => (f a).All p) → (t.bind f).All p
 | .leaf _, k => k
 | .br _ _ _, k => ⟨k.1.bind, k.2.bind⟩
theorem RT.val_map {α β : Type} (f : α → β) : ∀ t : RT α, (t.map f).val = f t.val
 | .leaf _ => rfl
 | .br b t e => by simp only [RT.map, RT.val, RT.val_map f t, RT.val_map f e]; cases b <;> rfl
theorem RT.val_bind {α β : Type} (f : α → RT β) : ∀ t : RT α, (t.bind f).val = (f t.val).val
 | .leaf _ => rfl
 | .br b t e => by simp only [RT.bind, RT.val, RT.val_bind f t, RT.val_bind f e]; cases b <;> rfl
theorem Ze8 (m n : Nat) : tbit m n = m.testBit n := by
 have h : Nat.land 1 (Nat.shiftRight m n) = (m >>> n) % 2 := by
  have : Nat.land 1 (Nat.shiftRight m n) = 1 &&& (m >>> n) := rfl
  rw [this, Nat.and_comm, Nat.and_one_is_mod]
 unfold tbit
 rw [h, Nat.testBit_eq_decide_div_mod_eq, Nat.shiftRight_eq_div_pow]
 by_cases e : m / 2 ^ n % 2 = 1
 ·simp [e]
 ·simp only [e, decide_false]
  rw [Bool.eq_false_iff]; intro h2; exact e (Nat.eq_of_beq_eq_true h2)
theorem Zds (a b i : Nat) : tbit (Nat.lor a b) i = (tbit a i || tbit b i) := by
 rw [Ze8, Ze8, Ze8]; exact Nat.testBit_or a b i
theorem Zia (i : Nat) : tbit 0 i = false := by rw [Ze8]; simp
theorem ZcA (m n i : Nat) : tbit (setB m n) i = (Nat.beq n i || tbit m i) := by
 unfold setB
 rw [Zds, Bool.or_comm, Ze8 (Nat.shiftLeft 1 n)]
 congr 1
 have : Nat.shiftLeft 1 n = 2 ^ n := by
  have : Nat.shiftLeft 1 n = 1 <<< n := rfl
  rw [this, Nat.one_shiftLeft]
 rw [this, Nat.testBit_two_pow]
 by_cases e : n = i
 ·subst e; simp
 ·simp only [e, decide_false]
  symm; rw [Bool.eq_false_iff]; intro h2; exact e (Nat.eq_of_beq_eq_true h2)
theorem ZxT (n i : Nat) : tbit (allB n) i = true ↔ i < n := by
 unfold allB
 have : Nat.shiftLeft 1 n = 2 ^ n := by
  have : Nat.shiftLeft 1 n = 1 <<< n := rfl
  rw [this, Nat.one_shiftLeft]
 rw [this, Ze8]
 have e : Nat.sub (2 ^ n) 1 = 2 ^ n - 1 := rfl
 rw [e, Nat.testBit_two_pow_sub_one]; simp
theorem ZjK (l : List Nat) (t n : Nat) : memN (addN l t) n = (Nat.beq t n || memN l n) := by
 unfold addN
 split
 ·rename_i h
  by_cases e : t = n
  ·subst e; simp [h]
  ·have : Nat.beq t n = false := by rw [Bool.eq_false_iff]; intro h'; rw [Nat.beq_eq] at h'; exact e h'
   simp [this]
 ·rfl
theorem ZbU (l : List Nat) : ∀ (r : List Nat) (n : Nat), memN (ZeR l r) n = (memN l n || memN r n)
 | [], n => by simp [ZeR, memN]
 | t :: r, n => by
  rw [ZeR, ZbU (addN l t) r n, ZjK, memN]
  cases Nat.beq t n <;> cases memN l n <;> simp
theorem ZpW (l : List (Nat × Nat)) (b o c d : Nat) : memP (addP l b o) c d = ((Nat.beq b c && Nat.beq o d) || memP l c d) := by
 unfold addP
 split
 ·rename_i h
  by_cases e : b = c ∧ o = d
  ·obtain ⟨rfl, rfl⟩ := e; simp [h]
  ·have : (Nat.beq b c && Nat.beq o d) = false := by
    rw [Bool.eq_false_iff]; intro h'; simp at h'; exact e h'
   simp [this]
 ·rfl
theorem ZbT (l : List (Nat × Nat)) : ∀ (r : List (Nat × Nat)) (c d : Nat), memP (ZgK l r) c d = (memP l c d || memP r c d)
 | [], c, d => by simp [ZgK, memP]
 | (b, o) :: r, c, d => by
  rw [ZgK, ZbT (addP l b o) r c d, ZpW, memP]
  cases (Nat.beq b c && Nat.beq o d) <;> cases memP l c d <;> simp
theorem Zdh (b : Nat) : ∀ (n o : Nat) (l : List (Nat × Nat)) (c d : Nat), memP (Ztf l b o n) c d = (memP l c d || (Nat.beq b c && decide (o ≤ d ∧ d < o + n)))
 | 0, o, l, c, d => by simp [Ztf]; omega
 | n + 1, o, l, c, d => by
  rw [Ztf, Zdh b n (o + 1) _ c d, ZpW]
  by_cases h1 : Nat.beq b c = true
  ·rw [h1]
   simp only [Bool.true_and]
   rw [Bool.eq_iff_iff]
   simp only [Bool.or_eq_true, Nat.beq_eq, decide_eq_true_eq]
   constructor
   ·rintro ((rfl | h) | h)
    ·exact .inr (by omega)
    ·exact .inl h
    ·exact .inr (by omega)
   ·rintro (h | h)
    ·exact .inl (.inr h)
    ·by_cases e : o = d
     ·exact .inl (.inl e)
     ·exact .inr (by omega)
  ·simp [Bool.eq_false_iff.2 (by simpa using h1 : ¬ Nat.beq b c = true)]
structure Keep (s o : St) : Prop where
 sl : o.slots.length = s.slots.length
 slot : ∀ t, tbit o.dirty t = false → tbit s.dirty t = false ∧ nth o.slots t = nth s.slots t
 bl : s.mem.boxes.length ≤ o.mem.boxes.length
 box : ∀ b l, nth s.mem.boxes b = some l → ∃ l', nth o.mem.boxes b = some l' ∧ l'.length = l.length ∧ ∀ j, memP o.bd b j = false → memP s.bd b j = false ∧ nth l' j = nth l j
 gl : s.mem.stgs.length ≤ o.mem.stgs.length
 stg : ∀ h g, nth s.mem.stgs h = some g → ∃ g', nth o.mem.stgs h = some g' ∧ g.ver ≤ g'.ver ∧ (memN o.sd h = false → memN s.sd h = false ∧ g' = g)
theorem Keep.refl (s : St) : Keep s s := ⟨rfl, fun _ h => ⟨h, rfl⟩, Nat.le_refl _, fun _ l h => ⟨l, h, rfl, fun _ k => ⟨k, rfl⟩⟩, Nat.le_refl _, fun _ g h => ⟨g, h, Nat.le_refl _, fun k => ⟨k, rfl⟩⟩⟩
theorem Keep.trans {a b c : St} (h : Keep a b) (k : Keep b c) : Keep a c where
 sl := k.sl.trans h.sl
 slot := fun t ht => let ⟨h1, h2⟩ := k.slot t ht; let ⟨h3, h4⟩ := h.slot t h1; ⟨h3, h2.trans h4⟩
 bl := Nat.le_trans h.bl k.bl
 box := fun b l hl => by
  obtain ⟨l1, h1, h2, h3⟩ := h.box b l hl
  obtain ⟨l2, h4, h5, h6⟩ := k.box b l1 h1
  exact ⟨l2, h4, h5.trans h2, fun j hj => let ⟨q1, q2⟩ := h6 j hj; let ⟨q3, q4⟩ := h3 j q1; ⟨q3, q2.trans q4⟩⟩
 gl := Nat.le_trans h.gl k.gl
 stg := fun i g hg => by
  obtain ⟨g1, h1, h2, h3⟩ := h.stg i g hg
  obtain ⟨g2, h4, h5, h6⟩ := k.stg i g1 h1
  exact ⟨g2, h4, Nat.le_trans h2 h5, fun hj => let ⟨q1, q2⟩ := h6 hj; let ⟨q3, q4⟩ := h3 q1; ⟨q3, q2.trans q4⟩⟩
theorem Keep.put (s : St) (d : Option Nat) (v : V) : Keep s (put s d v) := by
 cases d with
 | none => exact Keep.refl s
 | some d =>
  refine ⟨by simp [S3.put, Zz], fun t ht => ?_, Nat.le_refl _, fun _ l h => ⟨l, h, rfl, fun _ k => ⟨k, rfl⟩⟩, Nat.le_refl _, fun _ g h => ⟨g, h, Nat.le_refl _, fun k => ⟨k, rfl⟩⟩⟩
  simp only [S3.put, ZcA, Bool.or_eq_false_iff] at ht
  refine ⟨ht.2, ?_⟩
  have : d ≠ t := by intro e; subst e; simp at ht
  simp only [S3.put]
  rw [Zt this]
theorem ZiA : ∀ {vs l r : List A} {o : Nat}, putN l o vs = some r → r.length = l.length
 | [], l, r, o, h => by simp [putN] at h; simp [h]
 | v :: vs, l, r, o, h => by
  simp only [putN] at h
  split at h
  ·have := ZiA h; simpa [Zz] using this
  ·simp at h
theorem Zua : ∀ {vs l r : List A} {o : Nat}, putN l o vs = some r → ∀ j, ¬ (o ≤ j ∧ j < o + vs.length) → nth r j = nth l j
 | [], l, r, o, h, j, _ => by simp [putN] at h; simp [h]
 | v :: vs, l, r, o, h, j, hj => by
  simp only [putN] at h
  split at h
  ·simp only [List.length_cons] at hj
   have := Zua h j (by omega)
   rw [this, Zk, Zk, Zz, List.getElem?_set_ne (by omega)]
  ·simp at h
structure KeepR (s : St) (r : Res) : Prop where
 bl : s.mem.boxes.length ≤ r.m.boxes.length
 box : ∀ b l, nth s.mem.boxes b = some l → ∃ l', nth r.m.boxes b = some l' ∧ l'.length = l.length ∧ ∀ j, memP r.bd b j = false → memP s.bd b j = false ∧ nth l' j = nth l j
 gl : s.mem.stgs.length ≤ r.m.stgs.length
 stg : ∀ h g, nth s.mem.stgs h = some g → ∃ g', nth r.m.stgs h = some g' ∧ g.ver ≤ g'.ver ∧ (memN r.sd h = false → memN s.sd h = false ∧ g' = g)
theorem KeepR.still {s : St} {r : Res} (h1 : r.m = s.mem) (h2 : r.bd = s.bd) (h3 : r.sd = s.sd) : KeepR s r := by
 refine ⟨by rw [h1]; exact Nat.le_refl _, fun b l h => ⟨l, by rw [h1]; exact h, rfl, fun j k => ⟨by rw [← h2]; exact k, rfl⟩⟩, by rw [h1]; exact Nat.le_refl _, fun i g h => ⟨g, by rw [h1]; exact h, Nat.le_refl _, fun k => ⟨by rw [← h3]; exact k, rfl⟩⟩⟩
theorem KeepR.keep {s : St} {r : Res} (h : KeepR s r) (d : Option Nat) : Keep s (putRes s d r) :=
 Keep.trans (b := { s with mem := r.m, bd := r.bd, sd := r.sd }) ⟨rfl, fun _ h => ⟨h, rfl⟩, h.bl, h.box, h.gl, h.stg⟩ (Keep.put _ _ _)
theorem KeepR.of {s s' : St} (h : Keep s s') (chk : Option Bool) (v : V) : KeepR s (ofSt s' chk v) := ⟨h.bl, h.box, h.gl, h.stg⟩
theorem KeepR.trans {s s' : St} {r : Res} (h : Keep s s') (k : KeepR s' r) : KeepR s r := by
 have := h.trans (c := { s' with mem := r.m, bd := r.bd, sd := r.sd }) ⟨rfl, fun _ h => ⟨h, rfl⟩, k.bl, k.box, k.gl, k.stg⟩
 exact ⟨this.bl, this.box, this.gl, this.stg⟩
theorem Zsz (s : St) (l : List A) : KeepR s (ZfW s l) := by
 refine ⟨by simp [ZfW], fun b l' h => ⟨l', ZaV h, rfl, fun j k => ⟨k, rfl⟩⟩, Nat.le_refl _, fun _ g h => ⟨g, h, Nat.le_refl _, fun k => ⟨k, rfl⟩⟩⟩
theorem Zff (s : St) (g : Stg) (chk : Option Bool) : KeepR s (ZfV s g chk) := by
 refine ⟨Nat.le_refl _, fun b l' h => ⟨l', h, rfl, fun j k => ⟨k, rfl⟩⟩, by simp [ZfV], fun _ g h => ⟨g, ZaV h, Nat.le_refl _, fun k => ⟨k, rfl⟩⟩⟩
theorem Ze9 {s : St} {h : Nat} {g g' : Stg} (hg : nth s.mem.stgs h = some g) (hv : g.ver ≤ g'.ver) (chk : Option Bool) (v : V) :
  KeepR s { chk := chk, v := v, m := { s.mem with stgs := setN s.mem.stgs h g' }, bd := s.bd, sd := addN s.sd h } := by
 refine ⟨Nat.le_refl _, fun b l' h => ⟨l', h, rfl, fun j k => ⟨k, rfl⟩⟩, by simp [Zz], fun i g1 h1 => ?_⟩
 by_cases e : h = i
 ·subst e
  have : g1 = g := by rw [hg] at h1; simpa using h1.symm
  subst this
  exact ⟨g', Zv hg, hv, fun k => by rw [ZjK] at k; simp at k⟩
 ·refine ⟨g1, by show nth (setN _ _ _) _ = _; rw [Zt e]; exact h1, Nat.le_refl _, fun k => ?_⟩
  rw [ZjK, Bool.or_eq_false_iff] at k
  exact ⟨k.2, rfl⟩
theorem Zer {s s' : St} {a a' : A} (h : Z7 s a = some (a', s')) : Keep s s' := by
 cases a with
 | tip hh ver =>
  simp only [Z7] at h
  split at h
  ·rename_i g hg
   split at h
   ·simp only [oinj, pinj] at h
    obtain ⟨_, rfl⟩ := h
    exact Keep.refl s
   ·simp only [oinj, pinj] at h
    obtain ⟨_, rfl⟩ := h
    have := Ze9 (g' := { g with fzn := true, ffz := true }) (ZH hg).1 (Nat.le_refl _) none (.w .junk)
    exact ⟨rfl, fun _ h => ⟨h, rfl⟩, this.bl, this.box, this.gl, this.stg⟩
  ·simp at h
 | sp _ _ _ _ => simp [Z7] at h
 | _ => simp only [Z7, oinj, pinj] at h; obtain ⟨_, rfl⟩ := h; exact Keep.refl s
theorem Zep : ∀ {l l' : List A} {s s' : St}, Z6 s l = some (l', s') → Keep s s'
 | [], l', s, s', h => by
  simp only [Z6, oinj, pinj] at h
  obtain ⟨_, rfl⟩ := h
  exact Keep.refl s
 | a :: l, l', s, s', h => by
  simp only [Z6] at h
  split at h
  ·rename_i b s1 h1
   split at h
   ·rename_i r s2 h2
    simp only [oinj, pinj] at h
    obtain ⟨_, rfl⟩ := h
    exact (Zer h1).trans (Zep h2)
   ·simp at h
  ·simp at h
theorem Zqm {s s' : St} {v v' : V} (h : Zaz s v = some (v', s')) : Keep s s' := by
 cases v with
 | w a =>
  simp only [Zaz] at h
  split at h
  ·rename_i b s1 h1
   simp only [oinj, pinj] at h
   obtain ⟨_, rfl⟩ := h
   cases a with
   | one a =>
    simp only [Zag] at h1
    split at h1
    ·rename_i c s2 h2
     simp only [oinj, pinj] at h1
     obtain ⟨_, rfl⟩ := h1
     exact Zer h2
    ·simp at h1
   | agg l =>
    simp only [Zag] at h1
    split at h1
    ·rename_i c s2 h2
     simp only [oinj, pinj] at h1
     obtain ⟨_, rfl⟩ := h1
     exact Zep h2
    ·simp at h1
   | junk =>
    simp only [Zag, oinj, pinj] at h1
    obtain ⟨_, rfl⟩ := h1
    exact Keep.refl s
  ·simp at h
 | tup l =>
  simp only [Zaz, oinj, pinj] at h
  obtain ⟨_, rfl⟩ := h
  exact Keep.refl s
theorem Zcs : ∀ {l l' : List V} {s s' : St}, ZT s l = some (l', s') → Keep s s'
 | [], l', s, s', h => by
  simp only [ZT, oinj, pinj] at h
  obtain ⟨_, rfl⟩ := h
  exact Keep.refl s
 | a :: l, l', s, s', h => by
  simp only [ZT] at h
  split at h
  ·rename_i b s1 h1
   split at h
   ·rename_i r s2 h2
    simp only [oinj, pinj] at h
    obtain ⟨_, rfl⟩ := h
    exact (Zqm h1).trans (Zcs h2)
   ·simp at h
  ·simp at h
theorem Zeq : ∀ {l l' : List (Nat × Option (List A))} {s s' : St}, ZaL s l = some (l', s') → Keep s s'
 | [], l', s, s', h => by
  simp only [ZaL, oinj, pinj] at h
  obtain ⟨_, rfl⟩ := h
  exact Keep.refl s
 | (i, some a) :: l, l', s, s', h => by
  simp only [ZaL] at h
  split at h
  ·rename_i b s1 h1
   split at h
   ·rename_i r s2 h2
    simp only [oinj, pinj] at h
    obtain ⟨_, rfl⟩ := h
    exact (Zep h1).trans (Zeq h2)
   ·simp at h
  ·simp at h
 | (_, none) :: _, _, _, _, h => by simp [ZaL] at h
section
variable {P : Program} {s : St} {r : Res}
theorem ZbR {a : A} (h : ZaE s a = some r) : KeepR s r := by simp only [ZaE, oinj] at h; subst h; exact .still rfl rfl rfl
theorem Zob {a : V} (h : valR s a = some r) : KeepR s r := by simp only [valR, oinj] at h; subst h; exact .still rfl rfl rfl
theorem ZsZ {t : TypeId} {l : List A} {i : A} (h : Zqd P s t l i = some r) : KeepR s r := by
 unfold Zqd at h
 repeat' split at h
 all_goals first
  | exact Zob h
  | (simp at h; done)
  | (simp only [oinj] at h; subst h; exact .still rfl rfl rfl)
theorem ZcM {t : TypeId} {x i : A} (h : Zal P s t x i = some r) : KeepR s r := by
 unfold Zal at h
 repeat' split at h
 all_goals first
  | exact ZbR h
  | (simp at h; done)
  | (simp only [oinj] at h; subst h; exact .still rfl rfl rfl)
theorem ZqP {t : TypeId} {x : A} {lo hi mx : Option Operand} (h : sliceB P s t x lo hi mx = some r) : KeepR s r := by
 unfold sliceB at h
 repeat' split at h
 all_goals first
  | (simp at h; done)
  | (simp only [oinj] at h; subst h; exact .still rfl rfl rfl)
theorem ZqQ {t : TypeId} {x : A} {lo hi mx : Option Operand} (h : ZkM P s t x lo hi mx = some r) : KeepR s r := by
 unfold ZkM at h
 split at h
 ·rename_i x' s' hf
  split at h
  ·simp at h
  ·exact KeepR.trans (Zer hf) (ZqP h)
 ·simp at h
theorem Zhy {t : TypeId} {n : Nat} {ps : List (Nat × Option (List A))} (h : Zb1 P s t n ps = some r) : KeepR s r := by
 unfold Zb1 at h
 repeat' split at h
 all_goals first
  | (simp at h; done)
  | (simp only [oinj] at h; subst h; exact .still rfl rfl rfl)
theorem Zhx {t : TypeId} {n : Nat} {ps : List (Nat × Option (List A))} (h : Zb0 P s t n ps = some r) : KeepR s r := by
 unfold Zb0 at h
 repeat' split at h
 all_goals first
  | (simp at h; done)
  | (simp only [oinj] at h; subst h; exact Zff _ _ _)
theorem ZjL {t : TypeId} {l c : A} (h : Zdi P s t l c = some r) : KeepR s r := by
 unfold Zdi at h
 repeat' split at h
 all_goals first
  | (simp at h; done)
  | (simp only [oinj] at h; subst h; exact Zff _ _ _)
theorem Zqy {t t' : TypeId} {x y : A} (h : Zg2 P s t t' x y = some r) : KeepR s r := by
 unfold Zg2 at h
 repeat' split at h
 all_goals first
  | (simp at h; done)
  | (simp only [oinj] at h; subst h; exact Zff _ _ _)
  | (simp only [oinj] at h; subst h; exact .still rfl rfl rfl)
  | skip
 ·rename_i g hg _ _
  simp only [oinj] at h; subst h
  obtain ⟨h1, h2⟩ := ZH hg
  exact Ze9 h1 (by simp only; omega) _ _
theorem ZAM {t : TypeId} {v : V} (h : lenA P s t v = some r) : KeepR s r := by
 unfold lenA at h
 repeat' split at h
 all_goals first
  | exact ZbR h
  | (simp at h; done)
theorem Zn1 {t t' : TypeId} {x : A} (h : Zgf P s t t' x = some r) : KeepR s r := by
 unfold Zgf at h
 repeat' split at h
 all_goals first
  | exact ZbR h
  | (simp at h; done)
theorem ZqK {t : TypeId} {p : A} {l : List A} (h : Zoo P s t p l = some r) : KeepR s r := by
 unfold Zoo at h
 split at h
 ·simp at h
 ·rename_i n hn
  split at h
  ·simp at h
  ·rename_i hbeq
   simp only [Nat.beq_eq, Z4] at hbeq
   split at h
   ·rename_i b off
    split at h
    ·simp at h
    ·rename_i c hcb
     split at h
     ·simp at h
     ·rename_i c' hput
      simp only [oinj] at h; subst h
      refine ⟨by simp [Zz], fun b' l' hb' => ?_, Nat.le_refl _, fun _ g h => ⟨g, h, Nat.le_refl _, fun k => ⟨k, rfl⟩⟩⟩
      by_cases e : b = b'
      ·subst e
       have : l' = c := by rw [hcb] at hb'; simpa using hb'.symm
       subst this
       refine ⟨c', Zv hcb, ZiA hput, fun j hj => ?_⟩
       rw [Zdh, Bool.or_eq_false_iff] at hj
       refine ⟨hj.1, Zua hput j ?_⟩
       have := hj.2
       simp at this
       rw [← hbeq]; omega
      ·refine ⟨l', by show nth (setN _ _ _) _ = _; rw [Zt e]; exact hb', rfl, fun j hj => ?_⟩
       rw [Zdh, Bool.or_eq_false_iff] at hj
       exact ⟨hj.1, rfl⟩
   ·rename_i hh v i off
    split at h
    ·simp at h
    ·rename_i g hg
     split at h
     ·simp at h
     ·split at h
      ·simp at h
      ·split at h
       ·simp at h
       ·simp only [oinj] at h; subst h
        refine Ze9 (ZH hg).1 ?_ _ _
        exact Nat.le_refl _
   ·simp at h
theorem Zn4 {b : Builtin} {ts : List TypeId} {vs : List V} (h : Zb2 P s b ts vs = some r) : KeepR s r := by
 unfold Zb2 at h
 split at h
 ·split at h
  ·exact ZbR h
  ·simp at h
 ·split at h
  ·exact ZbR h
  ·simp at h
 ·exact ZAM h
 ·exact Zqy h
 ·simp at h
end
theorem ZBp {E : Env} {s : St} {op : Op} {r : Res} (h : evOp E s op = some r) : KeepR s r := by
 unfold evOp at h
 repeat' split at h
 all_goals first
  | exact ZbR h
  | exact Zob h
  | (simp at h; done)
  | (rw [Option.bind_eq_some_iff] at h; obtain ⟨z, _, h⟩ := h; exact ZbR h)
  | (rw [Option.map_eq_some_iff] at h; obtain ⟨z, _, rfl⟩ := h; exact Zsz s z)
  | exact ZsZ h
  | exact ZcM h
  | exact ZqQ h
  | exact ZjL h
  | exact Zn1 h
  | exact ZqK h
  | (simp only [oinj] at h; subst h; exact .still rfl rfl rfl)
  | skip
 ·unfold ZdI at h
  split at h
  ·rename_i ps s' hf
   exact KeepR.trans (Zeq hf) (Zhx h)
  ·simp at h
 ·unfold ZcQ at h
  split at h
  ·rename_i ps s' hf
   exact KeepR.trans (Zeq hf) (Zhy h)
  ·simp at h
structure KeepC (m : Mem) (r : Res) : Prop where
 bl : m.boxes.length ≤ r.m.boxes.length
 box : ∀ b l, nth m.boxes b = some l → ∃ l', nth r.m.boxes b = some l' ∧ l'.length = l.length ∧ ∀ j, memP r.bd b j = false → nth l' j = nth l j
 gl : m.stgs.length ≤ r.m.stgs.length
 stg : ∀ h g, nth m.stgs h = some g → ∃ g', nth r.m.stgs h = some g' ∧ g.ver ≤ g'.ver ∧ (memN r.sd h = false → g' = g)
theorem KeepC.keepR {s : St} {r : Res} (h : KeepC s.mem r) : KeepR s (Zn3 s r) := by
 refine ⟨h.bl, fun b l hl => ?_, h.gl, fun i g hg => ?_⟩
 ·obtain ⟨l', h1, h2, h3⟩ := h.box b l hl
  refine ⟨l', h1, h2, fun j hj => ?_⟩
  simp only [Zn3, ZbT, Bool.or_eq_false_iff] at hj
  exact ⟨hj.1, h3 j hj.2⟩
 ·obtain ⟨g', h1, h2, h3⟩ := h.stg i g hg
  refine ⟨g', h1, h2, fun hj => ?_⟩
  simp only [Zn3, ZbU, Bool.or_eq_false_iff] at hj
  exact ⟨hj.1, h3 hj.2⟩
abbrev AllK (s : St) (t : RT Out) : Prop := t.All (fun o => Keep s o.s)
theorem AllK.trans {a b : St} (h : Keep a b) {t : RT Out} (k : AllK b t) : AllK a t := k.mono fun _ q => h.trans q
theorem ZY (s : St) : AllK s (ZdZ s) := Keep.refl s
theorem Zet {s : St} {c : Option Bool} {t : RT Out} (h : AllK s t) : AllK s (chkT c s t) := by
 cases c with
 | none => exact h
 | some b => exact ⟨h, Keep.refl s⟩
structure RelH (x0 : Ctx) (w0 : World) (x : Ctx) (s : St) (a : Act) (w : World) : Prop where
 r : Rel x s a w
 e : Ext x0 x
 t : Step x0 w0 w
structure ExtM (x x' : Ctx) : Prop where
 M : ∀ b p, nth x.M b = some p → nth x'.M b = some p
 S : ∀ h s, nth x.S h = some s → ∃ s', nth x'.S h = some s' ∧ SLe s s'
theorem ExtM.refl (x : Ctx) : ExtM x x := ⟨fun _ _ h => h, fun _ s h => ⟨s, h, .refl s⟩⟩
theorem ExtM.trans {x y z : Ctx} (h : ExtM x y) (k : ExtM y z) : ExtM x z :=
 ⟨fun b p e => k.M b p (h.M b p e), fun i s e => let ⟨s1, e1, l1⟩ := h.S i s e; let ⟨s2, e2, l2⟩ := k.S i s1 e1; ⟨s2, e2, l1.trans l2⟩⟩
theorem Ext.extM {x x' : Ctx} (h : Ext x x') : ExtM x x' := ⟨h.M, h.S⟩
def QK (Q : Exit → Act → World → Prop) : K → Act → World → Prop
 | .normal, a, w => Q .normal a w
 | .exit i, a, w => Q (.exit i) a w
 | .ret, a, w => Q .ret a w
 | .stop, _, _ => False
def Hold (x0 : Ctx) (w0 : World) (x : Ctx) (Q : Exit → Act → World → Prop) (o : Out) : Prop :=
 ∀ x' a' w', RelH x0 w0 x' o.s a' w' → ExtM x x' → QK Q o.k a' w'
structure Back (x x' x'' : Ctx) : Prop where
 a : ExtM x x'
 b : ExtM x x''
 S : ∀ h s s', nth x.S h = some s → nth x'.S h = some s' → ∃ s'', nth x''.S h = some s'' ∧ s'.ver ≤ s''.ver ∧ s''.blk = s'.blk ∧ s''.n = s'.n ∧ s''.w = s'.w ∧ s''.na = s'.na
 fz : x''.fz = x'.fz
 own : x''.own = x'.own
theorem Back.bare {x x' x'' : Ctx} (h : Back x x' x'') : x''.bare = x'.bare := by simp only [Ctx.bare, h.fz, h.own]
theorem RA.cut {x : Ctx} {a : A} {v0 : Value} (h : RA x a v0) : ∀ {x' x'' : Ctx} {v : Value}, Back x x' x'' → RA x' a v → RA x'' a v := by
 induction h with
 | bool x l b => intro x' x'' v _ k; cases k; exact .bool _ _ _
 | int x l k n h => intro x' x'' v _ k; cases k; exact .int _ _ _ _ h
 | str x s => intro x' x'' v _ k; cases k; exact .str _ _
 | loc x b o p h =>
  intro x' x'' v hb k
  cases k with
  | loc _ _ _ q hq =>
   have : q = p := by rw [hb.a.M b p h] at hq; simpa using hq.symm
   subst this
   exact .loc _ _ _ _ (hb.b.M b q h)
 | nilp x => intro x' x'' v _ k; cases k; exact .nilp _
 | nilsl x => intro x' x'' v _ k; cases k; exact .nilsl _
 | lst0 x r lit full nn l a cap h hf hn hz =>
  intro x' x'' v hb k
  exact k.plain (fun b o u e => by rw [hb.fz]; exact e) rfl
 | lst x r lit full nn l p o cap c h hf hcap hml hz hr ih =>
  intro x' x'' v hb k
  exact k.plain (fun b o u e => by rw [hb.fz]; exact e) rfl
 | tip x h ver s v hs hv hval hat =>
  intro x' x'' u hb k
  cases k with
  | tip _ _ _ s' _ hs' hv' hval' hat' =>
   obtain ⟨s'', e1, e2, e3, e4, e5, e6⟩ := hb.S h s s' hs hs'
   obtain ⟨s1, f1, f2⟩ := hb.a.S h s hs
   have : s1 = s' := by rw [hs'] at f1; simpa using f1.symm
   subst this
   refine .tip _ _ _ s'' _ e1 (by omega) (fun e => ?_) hat'
   have h1 := f2.ver
   rw [hval' (by omega)]
   simp only [tipVal, e3, e4, e6]
 | fp x l p o c hf hr ih =>
  intro x' x'' v hb k
  cases k with
  | fp _ _ p o c hf hr => exact .fp _ _ _ _ c (by rw [hb.fz]; exact hf) (by rw [hb.bare]; exact hr)
 | sp x h ver i o s v hs hv hval hat =>
  intro x' x'' u hb k
  cases k with
  | sp _ _ _ _ _ s' _ hs' hv' hval' hat' =>
   obtain ⟨s'', e1, e2, e3, e4, e5, e6⟩ := hb.S h s s' hs hs'
   obtain ⟨s1, f1, f2⟩ := hb.a.S h s hs
   have : s1 = s' := by rw [hs'] at f1; simpa using f1.symm
   subst this
   refine .sp _ _ _ _ _ s'' _ e1 (by omega) (fun e => ?_) hat'
   have h1 := f2.ver
   obtain ⟨p, cap, q1, q2, q3, q4⟩ := hval' (by omega)
   exact ⟨p, cap, by rw [e3]; exact q1, q2, by rw [e4]; exact q3, by rw [e5]; exact q4⟩
 | clo x f caps cs c hl hc hr ih =>
  intro x' x'' v hb k
  cases k with
  | clo _ _ _ cs' c' hl' hc' hr' => exact .clo _ _ _ _ c' hl' hc' (fun j a ha => ih j a ha hb (hr' j a ha))
 | raw x v h => intro x' x'' u _ k; cases k; exact .raw _ _ h
 | junk x v h => intro x' x'' u _ k; exact .junk _ _ k.atomic
theorem RL.cut {x x' x'' : Ctx} (hb : Back x x' x'') : ∀ {l : List A} {u v : List Value}, RL x l u → RL x' l v → RL x'' l v
 | [], [], [], _, _ => trivial
 | _ :: _, _ :: _, _ :: _, h, k => ⟨h.1.cut hb k.1, RL.cut hb h.2 k.2⟩
 | [], _ :: _, _, h, _ => h.elim
 | [], [], _ :: _, _, k => k.elim
 | _ :: _, [], _, h, _ => h.elim
 | _ :: _, _ :: _, [], _, k => k.elim
theorem RW.cut {x x' x'' : Ctx} (hb : Back x x' x'') {l : W} {u v : Value} (h : RW x l u) (k : RW x' l v) : RW x'' l v := by
 cases l with
 | one a => exact RA.cut h hb k
 | agg l => obtain ⟨C, _, h⟩ := h; obtain ⟨D, e, k⟩ := k; exact ⟨D, e, h.cut hb k⟩
 | junk => trivial
theorem RWs.cut {x x' x'' : Ctx} (hb : Back x x' x'') : ∀ {l : List W} {u v : List Value}, RWs x l u → RWs x' l v → RWs x'' l v
 | [], [], [], _, _ => trivial
 | _ :: _, _ :: _, _ :: _, h, k => ⟨RW.cut hb h.1 k.1, RWs.cut hb h.2 k.2⟩
 | [], _ :: _, _, h, _ => h.elim
 | [], [], _ :: _, _, k => k.elim
 | _ :: _, [], _, h, _ => h.elim
 | _ :: _, _ :: _, [], _, k => k.elim
theorem RV.cut {x x' x'' : Ctx} (hb : Back x x' x'') {l : V} {u v : Value} (h : RV x l u) (k : RV x' l v) : RV x'' l v := by
 cases l with
 | w a => exact RW.cut hb h k
 | tup l => obtain ⟨C, _, h⟩ := h; obtain ⟨D, e, k⟩ := k; exact ⟨D, e, h.cut hb k⟩
theorem Zaa {α : Type} {n : Nat} {l : List α} {b : Nat} (h : b < n) : nth (Zap n l) b = nth l b := by
 rw [Zdo, Zk, Zk, List.getElem?_take, if_pos h]
theorem ZaY {α : Type} {n : Nat} {l : List α} {b : Nat} {a : α} (h : nth (Zap n l) b = some a) : b < n ∧ nth l b = some a := by
 have h1 := ZP h
 rw [Zdo] at h1
 rw [List.length_take] at h1
 have h2 : b < n := by omega
 exact ⟨h2, by rw [← Zaa h2]; exact h⟩
theorem Zau {α : Type} {n : Nat} {l : List α} (h : n ≤ l.length) : (Zap n l).length = n := by
 rw [Zdo, List.length_take]; omega
theorem ZcI {t : Nat} {ts : List Nat} {i : Nat} (h : memN (t :: ts) i = false) : t ≠ i ∧ memN ts i = false := by
 simp only [memN, Bool.or_eq_false_iff] at h
 exact ⟨fun e => by subst e; simp at h, h.2⟩
theorem ZbZ {α : Type} {a : α} {o : Option (List α)} {r : List α} (h : Zqt a o = some r) : ∃ l, o = some l ∧ r = a :: l := by
 cases o with
 | none => simp [Zqt] at h
 | some l => simp only [Zqt, oinj] at h; exact ⟨l, rfl, h.symm⟩
theorem Zb5 {c : Bool} {tm : Nat → Nat → Nat → Option Nat} {nb : Nat} {nm : Nm} {mk : Nat} : ∀ {l y r : List V} {i : Nat}, Zch c tm nb nm mk i y l = some r → r.length = l.length ∧ ∀ j, tbit mk (i + j) = false → nth r j = nth l j
 | [], y, r, i, h => by
  simp only [Zch, oinj] at h; subst h
  exact ⟨rfl, fun _ _ => rfl⟩
 | a :: l, [], r, i, h => by
  simp only [Zch] at h
  split at h
  ·obtain ⟨r', h1, rfl⟩ := ZbZ h
   obtain ⟨q1, q2⟩ := Zb5 h1
   refine ⟨by simp [q1], fun j hj => ?_⟩
   cases j with
   | zero => rfl
   | succ j => exact q2 j (by rw [← hj]; congr 1; omega)
  ·simp at h
 | a :: l, b :: y, r, i, h => by
  simp only [Zch] at h
  split at h
  ·obtain ⟨r', h1, rfl⟩ := ZbZ h
   obtain ⟨q1, q2⟩ := Zb5 h1
   refine ⟨by simp [q1], fun j hj => ?_⟩
   cases j with
   | zero => rfl
   | succ j => exact q2 j (by rw [← hj]; congr 1; omega)
  ·rename_i hm
   have fin : ∀ z, Zqt z (Zch c tm nb nm mk (i + 1) y l) = some r → r.length = (a :: l).length ∧ ∀ j, tbit mk (i + j) = false → nth r j = nth (a :: l) j := by
    intro z hz
    obtain ⟨r', h1, rfl⟩ := ZbZ hz
    obtain ⟨q1, q2⟩ := Zb5 h1
    refine ⟨by simp [q1], fun j hj => ?_⟩
    cases j with
    | zero => rw [Nat.add_zero, hm] at hj; simp at hj
    | succ j => exact q2 j (by rw [← hj]; congr 1; omega)
   split at h
   ·exact fin _ h
   ·split at h
    ·exact fin _ h
    ·simp at h
theorem ZjN {nb : Nat} {nm : Nm} {tm : Nat → Nat → Nat → Option Nat} {c : Bool} {mk : Nat} {x x' : Ctx} (hx : Cut nb tm c x x') (u : Nat → Value) :
  ∀ (l y : List V) (i : Nat) (r : List V), Zch c tm nb nm mk i y l = some r → (∀ j v, tbit mk (i + j) = true → (cond c (nth l j) (nth y j)) = some v → RV x v (u (i + j))) →
   ∀ j v, tbit mk (i + j) = true → nth r j = some v → RV x' v (u (i + j))
 | [], y, i, r, h, _, j, v, hj, hv => by
  simp only [Zch, oinj] at h; subst h
  simp [Zn] at hv
 | a :: l, [], i, r, h, hl, j, v, hj, hv => by
  simp only [Zch] at h
  split at h
  ·rename_i hm
   obtain ⟨r', h1, rfl⟩ := ZbZ h
   cases j with
   | zero => rw [Nat.add_zero, hm] at hj; simp at hj
   | succ j =>
    have e : i + (j + 1) = i + 1 + j := by omega
    rw [e] at hj ⊢
    refine ZjN hx u l [] (i + 1) r' h1 (fun j v hj hv => ?_) j v hj hv
    have := hl (j + 1) v (by rw [← hj]; congr 1; omega) (by cases c with | true => exact hv | false => exact hv)
    rwa [show i + (j + 1) = i + 1 + j by omega] at this
  ·simp at h
 | a :: l, b :: y, i, r, h, hl, j, v, hj, hv => by
  simp only [Zch] at h
  have rest : ∀ r', Zch c tm nb nm mk (i + 1) y l = some r' → ∀ j v, tbit mk (i + (j + 1)) = true → nth r' j = some v → RV x' v (u (i + (j + 1))) := by
   intro r' h1 j v hj hv
   have e : i + (j + 1) = i + 1 + j := by omega
   rw [e] at hj ⊢
   refine ZjN hx u l y (i + 1) r' h1 (fun j v hj hv => ?_) j v hj hv
   have := hl (j + 1) v (by rw [← hj]; congr 1; omega) hv
   rwa [show i + (j + 1) = i + 1 + j by omega] at this
  split at h
  ·rename_i hm
   obtain ⟨r', h1, rfl⟩ := ZbZ h
   cases j with
   | zero => rw [Nat.add_zero, hm] at hj; simp at hj
   | succ j => exact rest r' h1 j v hj hv
  ·rename_i hm
   split at h
   ·obtain ⟨r', h1, rfl⟩ := ZbZ h
    cases j with
    | zero => simp only [nth, oinj] at hv; subst hv; trivial
    | succ j => exact rest r' h1 j v hj hv
   ·split at h
    ·rename_i z hz
     obtain ⟨r', h1, rfl⟩ := ZbZ h
     cases j with
     | zero =>
      simp only [nth, oinj] at hv; subst hv
      refine mV_ok hx hz (hl 0 _ (by rw [Nat.add_zero]; exact hm) ?_)
      cases c <;> rfl
     | succ j => exact rest r' h1 j v hj hv
    ·simp at h
theorem ZcH {b o : Nat} {ts : List (Nat × Nat)} {c j : Nat} (h : memP ((b, o) :: ts) c j = false) : ¬ (b = c ∧ o = j) ∧ memP ts c j = false := by
 simp only [memP, Bool.or_eq_false_iff] at h
 exact ⟨fun e => by obtain ⟨rfl, rfl⟩ := e; simp at h, h.2⟩
theorem Zb6 {c : Bool} {tm : Nat → Nat → Nat → Option Nat} {nb : Nat} {y : List (List A)} : ∀ {ts : List (Nat × Nat)} {l r : List (List A)}, Zf4 c tm nb y ts l = some r → r.length = l.length ∧
  ∀ b q, nth l b = some q → ∃ q', nth r b = some q' ∧ q'.length = q.length ∧ ∀ j, memP ts b j = false → nth q' j = nth q j
 | [], l, r, h => by
  simp only [Zf4, oinj] at h; subst h
  exact ⟨rfl, fun b q hq => ⟨q, hq, rfl, fun j _ => rfl⟩⟩
 | (b, o) :: ts, l, r, h => by
  simp only [Zf4] at h
  split at h
  ·obtain ⟨h1, h2⟩ := Zb6 h
   refine ⟨h1, fun b' q hq => ?_⟩
   obtain ⟨q', e1, e2, e3⟩ := h2 b' q hq
   exact ⟨q', e1, e2, fun j hj => e3 j (ZcH hj).2⟩
  ·split at h
   ·rename_i q0 q1 hq0 hq1
    split at h
    ·rename_i a a' ha ha'
     split at h
     ·rename_i z hz
      obtain ⟨h1, h2⟩ := Zb6 h
      refine ⟨by simpa [Zz] using h1, fun b' q hq => ?_⟩
      by_cases e : b = b'
      ·subst e
       have : q = q0 := by rw [hq0] at hq; simpa using hq.symm
       subst this
       obtain ⟨q', e1, e2, e3⟩ := h2 b (setN q o z) (Zv hq0)
       refine ⟨q', e1, by simpa [Zz] using e2, fun j hj => ?_⟩
       obtain ⟨k1, k2⟩ := ZcH hj
       rw [e3 j k2]
       exact Zt (fun e => k1 ⟨rfl, e⟩)
      ·obtain ⟨q', e1, e2, e3⟩ := h2 b' q (by rw [Zt e]; exact hq)
       exact ⟨q', e1, e2, fun j hj => e3 j (ZcH hj).2⟩
     ·simp at h
    ·simp at h
   ·simp at h
theorem ZjP {nb : Nat} {tm : Nat → Nat → Nat → Option Nat} {c : Bool} {x x' : Ctx} (hx : Cut nb tm c x x') {y : List (List A)} (u : Nat → Nat → Value) :
  ∀ (ts : List (Nat × Nat)) (l r : List (List A)), Zf4 c tm nb y ts l = some r → (∀ b q j a, b < nb → memP ts b j = true → cond c (nth l b) (nth y b) = some q → nth q j = some a → RA x a (u b j)) →
   ∀ b q j a, b < nb → memP ts b j = true → nth r b = some q → nth q j = some a → RA x' a (u b j)
 | [], l, r, h, _, b, q, j, a, _, hm, _, _ => by simp [memP] at hm
 | (b, o) :: ts, l, r, h, hl, b', q, j, a, hb', hm, hq, ha => by
  simp only [Zf4] at h
  split at h
  ·rename_i hsk
   refine ZjP hx u ts l r h (fun b q j a h1 h2 h3 h4 => hl b q j a h1 (by simp [memP, h2]) h3 h4) b' q j a hb' ?_ hq ha
   simp only [memP, Bool.or_eq_true, Bool.and_eq_true, Nat.beq_eq] at hm
   rcases hm with ⟨rfl, rfl⟩ | hm
   ·simp only [Bool.or_eq_true, Bool.not_eq_true'] at hsk
    rcases hsk with h1 | h1
    ·have : Nat.blt b nb = true := by rw [Nat.blt_eq]; exact hb'
     rw [this] at h1; simp at h1
    ·exact h1
   ·exact hm
  ·rename_i hsk
   simp only [Bool.or_eq_false_iff, Bool.not_eq_false'] at hsk
   obtain ⟨hlt, hno⟩ := hsk
   split at h
   ·rename_i q0 q1 hq0 hq1
    split at h
    ·rename_i a0 a1 ha0 ha1
     split at h
     ·rename_i z hz
      by_cases hm2 : memP ts b' j = true
      ·refine ZjP hx u ts _ r h (fun b2 q2 j2 a2 h1 h2 h3 h4 => ?_) b' q j a hb' hm2 hq ha
       have hne : ¬ (b = b2 ∧ o = j2) := fun e => by obtain ⟨rfl, rfl⟩ := e; rw [hno] at h2; simp at h2
       cases c with
       | false => exact hl b2 q2 j2 a2 h1 (by simp [memP, h2]) h3 h4
       | true =>
        have h3 : nth (setN l b (setN q0 o z)) b2 = some q2 := h3
        by_cases e : b = b2
        ·subst e
         rw [Zv hq0] at h3
         simp only [oinj] at h3; subst h3
         rw [Zt (fun e => hne ⟨rfl, e⟩)] at h4
         exact hl b q0 j2 a2 h1 (by simp [memP, h2]) hq0 h4
        ·rw [Zt e] at h3
         exact hl b2 q2 j2 a2 h1 (by simp [memP, h2]) h3 h4
      ·have hm2' : memP ts b' j = false := by simpa using hm2
       have hbo : b = b' ∧ o = j := by
        simp only [memP, hm2', Bool.or_false, Bool.and_eq_true, Nat.beq_eq] at hm; exact hm
       obtain ⟨rfl, rfl⟩ := hbo
       obtain ⟨q', e1, e2, e3⟩ := (Zb6 h).2 b (setN q0 o z) (Zv hq0)
       have : q' = q := by rw [hq] at e1; simpa using e1.symm
       subst this
       rw [e3 o hm2', Zv ha0] at ha
       simp only [oinj] at ha; subst ha
       refine ZGz hx hz ?_
       cases c with
       | false => exact hl b q1 o a1 hb' (by simp [memP]) hq1 ha1
       | true => exact hl b q0 o a0 hb' (by simp [memP]) hq0 ha0
     ·simp at h
    ·simp at h
   ·simp at h
structure Rep (gb g : Stg) : Prop where
 rl : (⟨g.r, g.l⟩ : (r : R) × List r.den) = ⟨gb.r, gb.l⟩
 T : g.T = gb.T
 ver : gb.ver ≤ g.ver
 fzn : g.fzn = false → gb.fzn = false
 ffz : g.ffz = true → gb.ffz = true
 ub : 0 < g.ub → 0 < gb.ub ∧ gb.ub ≤ g.ub
theorem Rep.refl (g : Stg) : Rep g g := ⟨rfl, rfl, Nat.le_refl _, fun h => h, fun h => h, fun h => ⟨h, Nat.le_refl _⟩⟩
theorem StgOk.rep {x : Ctx} {gb g : Stg} {s : SI} {w : World} (h : StgOk x gb s w) (hr : Rep gb g) : StgOk x g { s with ver := g.ver } w := by
 obtain ⟨r, T, l, ver, fzn, ffz, lit, ub⟩ := g
 obtain ⟨r', T', l', ver', fzn', ffz', lit', ub'⟩ := gb
 obtain ⟨h1, h2, h3, h4, h5, h6⟩ := hr
 simp only at h1 h2 h3 h4 h5 h6
 cases h1
 subst h2
 exact ⟨rfl, h.n, h.wd, h.nil, h.row, fun e => h.fzn (h4 e), fun e => h.ffz (h5 e), fun e => Nat.lt_of_lt_of_le (h.ub (h6 e).1) (h6 e).2⟩
theorem ZnF {c : Bool} {a b g : Stg} (h : mStg c a b = some g) : Rep (cond c a b) g := by
 unfold mStg at h
 split at h
 ·rename_i e he hT
  simp only [Nat.beq_eq] at hT
  simp only [oinj] at h; subst h
  have hver : (cond c a b).ver ≤ (match Nat.beq a.ver b.ver with | true => a.ver | false => Nat.max a.ver b.ver + 1) := by
   split
   ·rename_i hb
    simp only [Nat.beq_eq] at hb
    cases c
    ·exact Nat.le_of_eq hb.symm
    ·exact Nat.le_refl _
   ·have h1 : a.ver ≤ Nat.max a.ver b.ver := Nat.le_max_left _ _
    have h2 : b.ver ≤ Nat.max a.ver b.ver := Nat.le_max_right _ _
    cases c
    ·exact Nat.le_succ_of_le h2
    ·exact Nat.le_succ_of_le h1
  have hub : ∀ m n : Nat, 0 < (match Nat.blt 0 m && Nat.blt 0 n with | true => (match Nat.ble m n with | true => n | false => m) | false => 0) → (0 < m ∧ m ≤ (match Nat.blt 0 m && Nat.blt 0 n with | true => (match Nat.ble m n with | true => n | false => m) | false => 0)) ∧ (0 < n ∧ n ≤ (match Nat.blt 0 m && Nat.blt 0 n with | true => (match Nat.ble m n with | true => n | false => m) | false => 0)) := by
   intro m n h
   split at h
   ·rename_i hb
    simp only [Bool.and_eq_true, Nat.blt_eq] at hb
    split
    ·rename_i hle
     simp only [Nat.ble_eq] at hle
     exact ⟨⟨hb.1, hle⟩, hb.2, Nat.le_refl _⟩
    ·rename_i hle
     rw [Bool.eq_false_iff, Ne, Nat.ble_eq] at hle
     exact ⟨⟨hb.1, Nat.le_refl _⟩, hb.2, by omega⟩
   ·omega
  obtain ⟨ar, aT, al, av, af, aff, alit, aub⟩ := a
  obtain ⟨br, bT, bl, bv, bf, bff, blit, bub⟩ := b
  cases e
  simp only at hT
  subst hT
  cases c with
  | true => exact ⟨rfl, rfl, hver, fun e => by simp at e; exact e.1, fun e => by simp at e; exact e.1, fun e => (hub _ _ e).1⟩
  | false => exact ⟨rfl, rfl, hver, fun e => by simp at e; exact e.2, fun e => by simp at e; exact e.2, fun e => (hub _ _ e).2⟩
 ·simp at h
theorem ZbV {c : Bool} {y : List Stg} : ∀ {ts : List Nat} {l r : List Stg}, Zky c y ts l = some r → r.length = l.length ∧ ∀ i, memN ts i = false → nth r i = nth l i
 | [], l, r, h => by
  simp only [Zky, oinj] at h; subst h
  exact ⟨rfl, fun _ _ => rfl⟩
 | t :: ts, l, r, h => by
  simp only [Zky] at h
  split at h
  ·obtain ⟨h1, h2⟩ := ZbV h
   exact ⟨h1, fun i hi => h2 i (ZcI hi).2⟩
  ·split at h
   ·split at h
    ·obtain ⟨h1, h2⟩ := ZbV h
     refine ⟨by simpa [Zz] using h1, fun i hi => ?_⟩
     obtain ⟨q1, q2⟩ := ZcI hi
     rw [h2 i q2, Zt q1]
    ·simp at h
   ·obtain ⟨h1, h2⟩ := ZbV h
    exact ⟨h1, fun i hi => h2 i (ZcI hi).2⟩
theorem ZcK {c : Bool} {y : List Stg} : ∀ {ts : List Nat} {l r : List Stg}, y.length = l.length → Zky c y ts l = some r → ∀ h g gb, memN ts h = true → nth r h = some g → cond c (nth l h) (nth y h) = some gb → Rep gb g
 | [], l, r, _, h, i, g, gb, hm, _, _ => by simp [memN] at hm
 | t :: ts, l, r, hyl, h, i, g, gb, hm, hg, hgb => by
  simp only [Zky] at h
  split at h
  ·rename_i hmm
   refine ZcK hyl h i g gb ?_ hg hgb
   simp only [memN, Bool.or_eq_true, Nat.beq_eq] at hm
   rcases hm with rfl | hm
   ·exact hmm
   ·exact hm
  ·rename_i hmm
   split at h
   ·rename_i a b ha hb
    split at h
    ·rename_i z hz
     by_cases hm2 : memN ts i = true
     ·have hne : t ≠ i := fun e => by subst e; rw [hmm] at hm2; simp at hm2
      exact ZcK (by simpa [Zz] using hyl) h i g gb hm2 hg (by rw [Zt hne]; exact hgb)
     ·have hm2' : memN ts i = false := by simpa using hm2
      have : t = i := by
       simp only [memN, hm2', Bool.or_false, Nat.beq_eq] at hm; exact hm
      subst this
      rw [(ZbV h).2 t hm2', Zv ha] at hg
      simp only [oinj] at hg; subst hg
      have := ZnF hz
      cases c
      ·have : gb = b := by simp only [cond_false, hb, oinj] at hgb; exact hgb.symm
       subst this; exact ZnF hz
      ·have : gb = a := by simp only [cond_true, ha, oinj] at hgb; exact hgb.symm
       subst this; exact ZnF hz
    ·simp at h
   ·rename_i hno
    by_cases hm2 : memN ts i = true
    ·exact ZcK hyl h i g gb hm2 hg hgb
    ·have hm2' : memN ts i = false := by simpa using hm2
     have : t = i := by
      simp only [memN, hm2', Bool.or_false, Nat.beq_eq] at hm; exact hm
     subst this
     exfalso
     have hlt : t < l.length := by
      cases c
      ·have := ZP (show nth y t = some gb from hgb); omega
      ·exact ZP (show nth l t = some gb from hgb)
     obtain ⟨p, hp⟩ := Zby hlt
     obtain ⟨q, hq⟩ := Zby (l := y) (n := t) (by omega)
     exact hno p q hp hq
theorem ZjJ {c : Bool} {nb ns : Nat} {nm : Nm} {y1 y2 m : St} (h : ZpU c nb ns nm y1 y2 = some m) :
  Zky c (Zap ns y2.mem.stgs) (ZeR y1.sd y2.sd) (Zap ns y1.mem.stgs) = some m.mem.stgs ∧
  Zch c (tipM y1.mem.stgs y2.mem.stgs m.mem.stgs) nb nm (Nat.lor y1.dirty y2.dirty) 0 y2.slots y1.slots = some m.slots ∧
  Zf4 c (tipM y1.mem.stgs y2.mem.stgs m.mem.stgs) nb y2.mem.boxes (ZgK y1.bd y2.bd) (Zap nb y1.mem.boxes) = some m.mem.boxes ∧
  m.dirty = Nat.lor y1.dirty y2.dirty ∧ m.bd = ZgK y1.bd y2.bd ∧ m.sd = ZeR y1.sd y2.sd := by
 unfold ZpU at h
 split at h
 ·simp at h
 ·rename_i st hst
  split at h
  ·simp at h
  ·rename_i sl hsl
   split at h
   ·simp at h
   ·rename_i bx hbx
    simp only [oinj] at h
    subst h
    exact ⟨hst, hsl, hbx, rfl, rfl, rfl⟩
theorem ZsN {s : St} (hs : s.dirty = 0 ∧ s.bd = [] ∧ s.sd = []) {nm : Nm} {c : Bool} {y1 y2 m : St}
  (k1 : Keep s y1) (k2 : Keep s y2) (hm : ZpU c (len s.mem.boxes) (len s.mem.stgs) nm y1 y2 = some m) : Keep s m := by
 obtain ⟨h1, h2, h3, h4, h5, h6⟩ := ZjJ hm
 rw [Z4] at h1 h2 h3
 obtain ⟨q1, q2⟩ := Zb5 h2
 obtain ⟨q3, q4⟩ := Zb6 h3
 obtain ⟨q5, q6⟩ := ZbV h1
 refine ⟨q1.trans k1.sl, fun t ht => ?_, by rw [q3, Zau k1.bl]; exact Nat.le_refl _, fun b l hl => ?_, by rw [q5, Zau k1.gl]; exact Nat.le_refl _, fun i g hg => ?_⟩
 ·rw [h4] at ht
  refine ⟨by rw [hs.1]; exact Zia t, ?_⟩
  have ht' := ht
  rw [Zds, Bool.or_eq_false_iff] at ht'
  rw [q2 t (by rw [Nat.zero_add]; exact ht), (k1.slot t ht'.1).2]
 ·obtain ⟨l1, e1, e2, e3⟩ := k1.box b l hl
  have hb := ZP hl
  obtain ⟨q', f1, f2, f3⟩ := q4 b l1 (by rw [Zaa hb]; exact e1)
  refine ⟨q', f1, f2.trans e2, fun j hj => ⟨by rw [hs.2.1]; rfl, ?_⟩⟩
  rw [h5] at hj
  have hj' := hj
  rw [ZbT, Bool.or_eq_false_iff] at hj'
  rw [f3 j hj, (e3 j hj'.1).2]
 ·obtain ⟨g1, e1, e2, e3⟩ := k1.stg i g hg
  obtain ⟨g2, e4, e5, e6⟩ := k2.stg i g hg
  have hi := ZP hg
  obtain ⟨g', hg'⟩ := Zby (l := m.mem.stgs) (n := i) (by rw [q5, Zau k1.gl]; exact hi)
  refine ⟨g', hg', ?_, fun hd => ⟨by rw [hs.2.2]; rfl, ?_⟩⟩
  ·by_cases hd : memN (ZeR y1.sd y2.sd) i = true
   ·have hyl : (Zap s.mem.stgs.length y2.mem.stgs).length = (Zap s.mem.stgs.length y1.mem.stgs).length := by rw [Zau k1.gl, Zau k2.gl]
    cases c
    ·exact Nat.le_trans e5 (ZcK hyl h1 i g' g2 hd hg' (by show nth _ _ = _; rw [Zaa hi]; exact e4)).ver
    ·exact Nat.le_trans e2 (ZcK hyl h1 i g' g1 hd hg' (by show nth _ _ = _; rw [Zaa hi]; exact e1)).ver
   ·have hd' : memN (ZeR y1.sd y2.sd) i = false := by simpa using hd
    rw [q6 i hd', Zaa hi, e1] at hg'
    simp only [oinj] at hg'
    rw [← hg']; exact e2
  ·rw [h6] at hd
   have hd' := hd
   rw [ZbU, Bool.or_eq_false_iff] at hd'
   rw [q6 i hd, Zaa hi, e1] at hg'
   simp only [oinj] at hg'
   rw [← hg']; exact (e3 hd'.1).2
def retag : List Stg → List SI → List SI
 | g :: gs, s :: ss => { s with ver := g.ver } :: retag gs ss
 | _, _ => []
theorem Zow : ∀ {gs : List Stg} {ss : List SI}, gs.length ≤ ss.length → (retag gs ss).length = gs.length
 | [], _, _ => by simp [retag]
 | _ :: _, [], h => by simp at h
 | _ :: gs, _ :: ss, h => by simp only [retag, List.length_cons]; rw [Zow (by simpa using h)]
theorem Zov : ∀ {gs : List Stg} {ss : List SI} {i : Nat} {s' : SI}, nth (retag gs ss) i = some s' → ∃ g s, nth gs i = some g ∧ nth ss i = some s ∧ s' = { s with ver := g.ver }
 | [], _, i, s', h => by simp [retag, Zn] at h
 | _ :: _, [], i, s', h => by simp [retag, Zn] at h
 | g :: gs, s :: ss, 0, s', h => by simp only [retag, nth, oinj] at h; exact ⟨g, s, rfl, rfl, h.symm⟩
 | _ :: gs, _ :: ss, i + 1, s', h => by simp only [retag, nth] at h; exact Zov (gs := gs) (ss := ss) h
theorem ZhG : ∀ {gs : List Stg} {ss : List SI} {i : Nat} {g : Stg} {s : SI}, nth gs i = some g → nth ss i = some s → nth (retag gs ss) i = some { s with ver := g.ver }
 | [], _, i, _, _, h, _ => by simp [Zn] at h
 | _ :: _, [], i, _, _, _, h => by simp [Zn] at h
 | g :: gs, s :: ss, 0, _, _, h, h' => by simp only [nth, oinj] at h h'; subst h; subst h'; rfl
 | _ :: gs, _ :: ss, i + 1, _, _, h, h' => ZhG (gs := gs) (ss := ss) h h'
set_option maxHeartbeats 1000000 in
theorem ZAz {x0 x : Ctx} {w0 w : World} {s : St} {a : Act} (hp : RelH x0 w0 x s a w) {nm : Nm} {c : Bool} {y1 y2 m : St}
  (k1 : Keep s y1) (k2 : Keep s y2) (hm : ZpU c (len s.mem.boxes) (len s.mem.stgs) nm y1 y2 = some m) :
  ∀ x' a' w', RelH x0 w0 x' (cond c y1 y2) a' w' → ExtM x x' → ∃ x'', RelH x0 w0 x'' m a' w' ∧ ExtM x x'' := by
 obtain ⟨h1, h2, h3, h4, h5, h6⟩ := ZjJ hm
 rw [Z4] at h1 h2 h3
 obtain ⟨q1, q2⟩ := Zb5 h2
 obtain ⟨q3, q4⟩ := Zb6 h3
 obtain ⟨q5, q6⟩ := ZbV h1
 have q3' : m.mem.boxes.length = s.mem.boxes.length := by rw [q3, Zau k1.bl]
 have q5' : m.mem.stgs.length = s.mem.stgs.length := by rw [q5, Zau k1.gl]
 intro x' a' w' hr hxx
 have hR := hr.r
 have hM := hR.m
 generalize hy : cond c y1 y2 = yc at *
 have kc : Keep s yc := by rw [← hy]; cases c; exact k2; exact k1
 have hml := hM.ml
 have hsl := hM.sl
 have hpm := hp.r.m
 have hrep : ∀ i g, nth m.mem.stgs i = some g → ∃ gb, nth yc.mem.stgs i = some gb ∧ Rep gb g := by
  intro i g hg
  have hi : i < s.mem.stgs.length := by have := ZP hg; omega
  obtain ⟨gb0, hgb0⟩ := Zby hi
  obtain ⟨g1, e1, e2, e3⟩ := k1.stg i gb0 hgb0
  obtain ⟨g2, e4, e5, e6⟩ := k2.stg i gb0 hgb0
  by_cases hd : memN (ZeR y1.sd y2.sd) i = true
  ·have hyl : (Zap s.mem.stgs.length y2.mem.stgs).length = (Zap s.mem.stgs.length y1.mem.stgs).length := by rw [Zau k1.gl, Zau k2.gl]
   rw [← hy]
   cases c
   ·exact ⟨g2, e4, ZcK hyl h1 i g g2 hd hg (by show nth _ _ = _; rw [Zaa hi]; exact e4)⟩
   ·exact ⟨g1, e1, ZcK hyl h1 i g g1 hd hg (by show nth _ _ = _; rw [Zaa hi]; exact e1)⟩
  ·have hd' : memN (ZeR y1.sd y2.sd) i = false := by simpa using hd
   rw [q6 i hd', Zaa hi, e1] at hg
   simp only [oinj] at hg
   rw [ZbU, Bool.or_eq_false_iff] at hd'
   have : g2 = g1 := by rw [(e3 hd'.1).2, (e6 hd'.2).2]
   subst this; subst hg
   rw [← hy]
   cases c
   ·exact ⟨g2, e4, .refl _⟩
   ·exact ⟨g2, e1, .refl _⟩
 let x'' : Ctx := { x' with M := Zap s.mem.boxes.length x'.M, S := retag m.mem.stgs x'.S }
 have hSl : m.mem.stgs.length ≤ x'.S.length := by rw [hsl, q5']; exact kc.gl
 have hMl : s.mem.boxes.length ≤ x'.M.length := by rw [hml]; exact kc.bl
 have hS2 : ∀ i s'', nth x''.S i = some s'' → ∃ g gb s', nth m.mem.stgs i = some g ∧ nth yc.mem.stgs i = some gb ∧ nth x'.S i = some s' ∧ Rep gb g ∧ s'' = { s' with ver := g.ver } ∧ StgOk x' gb s' w' := by
  intro i s'' hs''
  obtain ⟨g, s', e1, e2, e3⟩ := Zov hs''
  obtain ⟨gb, e4, e5⟩ := hrep i g e1
  exact ⟨g, gb, s', e1, e4, e2, e5, e3, hM.stg i gb s' e4 e2⟩
 have hback : Back x x' x'' := by
  refine ⟨hxx, ⟨fun b p h => ?_, fun i si hsi => ?_⟩, fun i si s' hsi hs' => ?_, rfl, rfl⟩
  ·have hb : b < s.mem.boxes.length := by have h1 := ZP h; have h2 := hpm.ml; omega
   show nth (Zap s.mem.boxes.length x'.M) b = some p
   rw [Zaa hb]; exact hxx.M b p h
  ·obtain ⟨s', e1, e2⟩ := hxx.S i si hsi
   have hi : i < m.mem.stgs.length := by have h1 := ZP hsi; have h2 := hpm.sl; omega
   obtain ⟨g, hg⟩ := Zby hi
   obtain ⟨gb, e3, e4⟩ := hrep i g hg
   have hok := hM.stg i gb s' e3 e1
   refine ⟨{ s' with ver := g.ver }, ZhG hg e1, ⟨?_, fun e => ?_⟩⟩
   ·have h1 := e2.ver; have h2 := e4.ver; have h3 := hok.ver; show si.ver ≤ g.ver; omega
   ·have e : g.ver = si.ver := e
    have h1 := e2.ver; have h2 := e4.ver; have h3 := hok.ver
    exact e2.same (by omega)
  ·have hi : i < m.mem.stgs.length := by have h1 := ZP hsi; have h2 := hpm.sl; omega
   obtain ⟨g, hg⟩ := Zby hi
   obtain ⟨gb, e3, e4⟩ := hrep i g hg
   have hok := hM.stg i gb s' e3 hs'
   exact ⟨{ s' with ver := g.ver }, ZhG hg hs', by have h2 := e4.ver; have h3 := hok.ver; show s'.ver ≤ g.ver; omega, rfl, rfl, rfl, rfl⟩
 have hcut : Cut s.mem.boxes.length (tipM y1.mem.stgs y2.mem.stgs m.mem.stgs) c x' x'' := by
  refine ⟨fun b hb => Zaa hb, fun i v v' mv htm val hv => ?_, fun _ _ _ h => h⟩
  unfold tipM at htm
  split at htm
  ·rename_i ga gb' gm ha hb' hgm
   split at htm
   ·rename_i hvv
    simp only [Bool.and_eq_true, Nat.beq_eq] at hvv
    obtain ⟨rfl, rfl⟩ := hvv
    simp only [oinj] at htm; subst htm
    obtain ⟨gb, e3, e4⟩ := hrep i gm hgm
    have hgc : (cond c ga.ver gb'.ver) = gb.ver := by
     rw [← hy] at e3
     cases c
     ·have e3 : nth y2.mem.stgs i = some gb := e3
      rw [hb'] at e3; simp only [oinj] at e3; subst e3; rfl
     ·have e3 : nth y1.mem.stgs i = some gb := e3
      rw [ha] at e3; simp only [oinj] at e3; subst e3; rfl
    rw [hgc] at hv
    cases hv with
    | tip _ _ _ s' _ hs' hv' hval hat =>
     have hok := hM.stg i gb s' e3 hs'
     refine .tip _ _ _ { s' with ver := gm.ver } _ (ZhG hgm hs') (Nat.le_refl _) (fun _ => ?_) hat
     rw [hval hok.ver]; rfl
   ·simp at htm
  ·simp at htm
 refine ⟨x'', ⟨⟨⟨?_, ?_⟩, ?_, hR.d⟩, ?_, hr.t⟩, hback.b⟩
 ·rw [q1, k1.sl, ← kc.sl]; exact hR.f.size
 ·intro i v hv
  by_cases hd : tbit (Nat.lor y1.dirty y2.dirty) i = true
  ·have hres := ZjN hcut (fun i => a'.tmps.getD i undef) _ _ 0 _ h2 (fun i v _ hv => ?_) i v (by rw [Nat.zero_add]; exact hd) hv
   ·simpa using hres
   rw [Nat.zero_add]
   refine hR.f.slot i v ?_
   rw [← hy]
   cases c
   ·exact hv
   ·exact hv
  ·have hd' : tbit (Nat.lor y1.dirty y2.dirty) i = false := by simpa using hd
   have hd2 := hd'
   rw [Zds, Bool.or_eq_false_iff] at hd2
   rw [q2 i (by rw [Nat.zero_add]; exact hd'), (k1.slot i hd2.1).2] at hv
   have hold := hp.r.f.slot i v hv
   have hnow : nth yc.slots i = some v := by
    rw [← hy]
    cases c
    ·show nth y2.slots i = some v; rw [(k2.slot i hd2.2).2]; exact hv
    ·show nth y1.slots i = some v; rw [(k1.slot i hd2.1).2]; exact hv
   exact RV.cut hback hold (hR.f.slot i v hnow)
 ·refine ⟨hM.fresh, hM.fz, ?_, ?_, fun b p h => hM.mown b p (ZaY h).2, fun b b' p h h' => hM.inj b b' p (ZaY h).2 (ZaY h').2, ?_, ?_, ?_, ?_⟩
  ·show (Zap s.mem.boxes.length x'.M).length = m.mem.boxes.length
   rw [Zau hMl, q3']
  ·intro b l p hl hpM
   obtain ⟨hb, hpM'⟩ := ZaY hpM
   obtain ⟨l0, hl0⟩ := Zby hb
   obtain ⟨l1, e1, e2, e3⟩ := k1.box b l0 hl0
   obtain ⟨l2, g1, g2, g3⟩ := k2.box b l0 hl0
   obtain ⟨q', f1, f2, f3⟩ := q4 b l1 (by rw [Zaa hb]; exact e1)
   have : q' = l := by rw [hl] at f1; simpa using f1.symm
   subst this
   have hnow : ∃ lc, nth yc.mem.boxes b = some lc ∧ lc.length = l0.length ∧ ∀ j, memP (ZgK y1.bd y2.bd) b j = false → nth lc j = nth l0 j := by
    rw [← hy]
    cases c
    ·exact ⟨l2, g1, g2, fun j hj => by rw [ZbT, Bool.or_eq_false_iff] at hj; exact (g3 j hj.2).2⟩
    ·exact ⟨l1, e1, e2, fun j hj => by rw [ZbT, Bool.or_eq_false_iff] at hj; exact (e3 j hj.1).2⟩
   obtain ⟨lc, n1, n2, n3⟩ := hnow
   obtain ⟨C, T, p1, p2⟩ := hM.box b lc p n1 hpM'
   obtain ⟨p0, hp0⟩ := hpm.M_of hl0
   obtain ⟨C0, T0, p3, p4⟩ := hpm.box b l0 p0 hl0 hp0
   refine ⟨C, T, p1, RL.of_nth (by rw [f2, e2, ← n2]; exact p2.length) fun j e he => ?_⟩
   by_cases hd : memP (ZgK y1.bd y2.bd) b j = true
   ·have hjlt : j < C.length := by rw [← p2.length, n2, ← e2, ← f2]; exact ZP he
    refine ⟨C[j], List.getElem?_eq_getElem hjlt, ?_⟩
    have key := ZjP hcut (y := y2.mem.boxes) (fun b j => ((w'.heap[(nth x'.M b).getD 0]?).bind fun o => match o with | .cells C _ _ => C[j]? | _ => none).getD undef) _ _ _ h3
     (fun b2 q2 j2 a2 hb2 _ hq2 ha2 => by
      have hq2' : nth yc.mem.boxes b2 = some q2 := by
       rw [← hy]
       cases c
       ·exact hq2
       ·exact (ZaY (show nth (Zap s.mem.boxes.length y1.mem.boxes) b2 = some q2 from hq2)).2
      obtain ⟨pp, hpp⟩ := Zby (l := x'.M) (n := b2) (by omega)
      obtain ⟨C2, T2, r1, r2⟩ := hM.box b2 q2 pp hq2' hpp
      obtain ⟨v2, r3, r4⟩ := r2.nth j2 a2 ha2
      simpa [hpp, r1, r3] using r4) b q' j e hb hd hl he
    have hval : ((w'.heap[(nth x'.M b).getD 0]?).bind fun o => match o with | .cells C _ _ => C[j]? | _ => none).getD undef = C[j] := by
     simp [hpM', p1, hjlt]
    rw [hval] at key; exact key
   ·have hd' : memP (ZgK y1.bd y2.bd) b j = false := by simpa using hd
    have hd2 := hd'
    rw [ZbT, Bool.or_eq_false_iff] at hd2
    rw [f3 j hd', (e3 j hd2.1).2] at he
    obtain ⟨v, v1, v2⟩ := p2.nth j e (by rw [n3 j hd']; exact he)
    obtain ⟨v0, _, v3⟩ := p4.nth j e he
    exact ⟨v, v1, v3.cut hback v2⟩
  ·show (retag m.mem.stgs x'.S).length = _
   rw [Zow hSl]
  ·intro i g s'' hg hs''
   obtain ⟨g', gb, s', e1, e2, e3, e4, e5, e6⟩ := hS2 i s'' hs''
   have : g' = g := by rw [hg] at e1; simpa using e1.symm
   subst this
   rw [e5]
   exact (e6.rep e4).ctx (fun _ _ _ h => h) (fun _ _ _ _ => rfl)
  ·intro i s'' p cap hs'' hb
   obtain ⟨g', gb, s', e1, e2, e3, e4, e5, e6⟩ := hS2 i s'' hs''
   rw [e5] at hb
   obtain ⟨o1, o2⟩ := hM.sown i s' p cap e3 hb
   exact ⟨o1, fun b e => o2 b (ZaY e).2⟩
  ·intro i i' s1 s2 p c1 c2 hs1 hs2 hb1 hb2
   obtain ⟨_, _, s1', _, _, e3, _, e5, _⟩ := hS2 i s1 hs1
   obtain ⟨_, _, s2', _, _, f3, _, f5, _⟩ := hS2 i' s2 hs2
   rw [e5] at hb1; rw [f5] at hb2
   exact hM.sinj i i' s1' s2' p c1 c2 e3 f3 hb1 hb2
 ·refine ⟨hr.e.own, fun b p h => hback.b.M b p (hp.e.M b p h), fun i si hsi => ?_, hr.e.fz, hr.e.new⟩
  obtain ⟨s1, e1, e2⟩ := hp.e.S i si hsi
  obtain ⟨s2, e3, e4⟩ := hback.b.S i s1 e1
  exact ⟨s2, e3, e2.trans e4⟩
theorem RelH.same {x0 x : Ctx} {w0 w w' : World} {s : St} {a : Act} (h : RelH x0 w0 x s a w) (hw : Zcd w w') : RelH x0 w0 x s a w' :=
 ⟨⟨h.r.f, h.r.m.old hw.1, h.r.d⟩, h.e, h.t.trans (hw.step h.r.m) h.e.own⟩
def ZG (P : Program) (f : FuncId) : Prop := ∀ (args : Array Value) (w : World), (callFunc f args).run P w = .ok (.enter f args) w
def ZBV (g : List V → Mem → Option (Option Bool × V)) : Prop := ∀ vs m m' r, g vs m = some r → m'.stgs = m.stgs → (∀ b o, V.w (.one (.loc b o)) ∈ vs → nth m'.boxes b = nth m.boxes b) → g vs m' = some r
def OwnG (g : List V → Mem → RT (Option Res)) : Prop := ∀ vs m r, (g vs m).val = some r → ∃ b, Zvg vs = some b ∧ r.m.stgs = m.stgs ∧ m.boxes.length ≤ r.m.boxes.length ∧ ∀ b', b' ≠ b → nth r.m.boxes b' = nth m.boxes b'
def Zc (P : Program) (f : FuncId) : Entry → Prop
 | .pure p => ZG P f ∧ ∀ vs chk v, p vs = some (chk, v) → chk ≠ some false → ∀ x m w args, MemOk x m w → RVs x vs args →
   Calls P f args.toArray w (fun e w' => ∃ val x', e = .returned val ∧ RV x' v val ∧ MemOk x' m w' ∧ Ext x x' ∧ Zcd w w')
 | .tree g => ZG P f ∧ (∀ vs m, (g vs m).All (fun r => ∀ q, r = some q → KeepC m q)) ∧ ∀ vs m r, (g vs m).val = some r → r.chk ≠ some false → ∀ x w args, MemOk x m w → RVs x vs args →
   Calls P f args.toArray w (fun e w' => ∃ val x', e = .returned val ∧ RV x' r.v val ∧ MemOk x' r.m w' ∧ Ext x x' ∧ Step x w w')
 | .read g => ZG P f ∧ ZBV g ∧ ∀ vs m chk v, g vs m = some (chk, v) → chk ≠ some false → ∀ x w args, MemOk x m w → RVs x vs args →
   Calls P f args.toArray w (fun e w' => ∃ val x', e = .returned val ∧ RV x' v val ∧ MemOk x' m w' ∧ Ext x x' ∧ Zcd w w')
 | .own g => (ZG P f ∧ (∀ vs m, (g vs m).All (fun r => ∀ q, r = some q → KeepC m q)) ∧ ∀ vs m r, (g vs m).val = some r → r.chk ≠ some false → ∀ x w args, MemOk x m w → RVs x vs args →
   Calls P f args.toArray w (fun e w' => ∃ val x', e = .returned val ∧ RV x' r.v val ∧ MemOk x' r.m w' ∧ Ext x x' ∧ Step x w w')) ∧ OwnG g
theorem Zc.plain {P : Program} {f : FuncId} : ∀ {e : Entry}, Zc P f e → Zc P f e.plain
 | .pure _, h => h
 | .tree _, h => h
 | .read _, h => h
 | .own _, h => h.1
def Za1 (E : Env) : Prop := ∀ f e, E.calls f = some e → Zc E.P f e
theorem Hold.stop {x0 x : Ctx} {w0 w : World} {s : St} {a : Act} {Q : Exit → Act → World → Prop} (hr : RelH x0 w0 x s a w) (h : Hold x0 w0 x Q ⟨.stop, s⟩) : False :=
 h x a w hr (ExtM.refl x)
theorem Hold.chk {x0 x : Ctx} {w0 w : World} {s : St} {a : Act} {Q : Exit → Act → World → Prop} {c : Option Bool} {t : RT Out} (hr : RelH x0 w0 x s a w) (h : Hold x0 w0 x Q (chkT c s t).val) :
  c ≠ some false ∧ Hold x0 w0 x Q t.val := by
 cases c with
 | none => exact ⟨by simp, h⟩
 | some b =>
  cases b with
  | true => exact ⟨by simp, h⟩
  | false => exact (Hold.stop hr h).elim
theorem Zmd (a : Act) (d : Option Nat) (v : Value) : (a.put d v).defers = a.defers := by cases d <;> rfl
theorem RF.put {x : Ctx} {s : St} {a : Act} (h : RF x s.slots a.tmps) (d : Option Nat) {v : V} {u : Value} (hv : RV x v u) : RF x (S3.put s d v).slots (a.put d u).tmps := by
 cases d with
 | none => exact h
 | some d => exact h.set d hv
theorem Zec (s : St) (d : Option Nat) (v : V) : (S3.put s d v).mem = s.mem := by cases d <;> rfl
theorem RelH.putRes {x0 x x' : Ctx} {w0 w w' : World} {s : St} {a : Act} {r : Res} {v : Value} (h : RelH x0 w0 x s a w) (d : Option Nat) (hv : RV x' r.v v) (hm : MemOk x' r.m w') (he : Ext x x') (ht : Step x w w') :
  RelH x0 w0 x' (S3.putRes s d r) (a.put d v) w' :=
 ⟨⟨RF.put (s := { s with mem := r.m, bd := r.bd, sd := r.sd }) (h.r.f.mono he) d hv, by rw [S3.putRes, Zec]; exact hm, by rw [Zmd]; exact h.r.d⟩, h.e.trans he, h.t.trans ht h.e.own⟩
theorem Hold.ext {x0 x x' : Ctx} {w0 : World} {Q : Exit → Act → World → Prop} {o : Out} (h : Hold x0 w0 x Q o) (e : ExtM x x') : Hold x0 w0 x' Q o :=
 fun y a w hr k => h y a w hr (e.trans k)
theorem Zkd {P : Program} {x : Ctx} : ∀ (vs : List V) (args : List Value) (l l' : Bool) (k k' : IntKind) (n n' : Int), RVs x vs args → inR k n → Zke (l, k, n) vs = some (l', k', n') →
  inR k' n' ∧ ∀ w, (args.foldlM Builtin.min2 (.int k n)).run P w = .ok (.int k' n') w
 | [], [], l, l', k, k', n, n', _, hk, h => by
  simp only [Zke, oinj, pinj] at h
  obtain ⟨_, rfl, rfl⟩ := h
  exact ⟨hk, fun w => rfl⟩
 | v :: vs, u :: args, l, l', k, k', n, n', hv, hk, h => by
  unfold Zke at h
  split at h
  ·simp at *
  ·rename_i l1 k1 n1 r heq
   obtain ⟨rfl, rfl⟩ := heq
   split at h
   ·rename_i hkk
    have := Zco hkk
    subst this
    obtain ⟨e1, e2⟩ := ZbA (show RA x (.int l1 k1 n1) u from hv.1)
    subst e1
    obtain ⟨h1, h2⟩ := Zkd vs args _ _ _ _ _ _ hv.2 (by simp only; split <;> assumption) h
    refine ⟨h1, fun w => ?_⟩
    simp only [List.foldlM_cons, Sem.run_bind, Builtin.min2, Sem.run_pure, Result.andThen_ok]
    exact h2 w
   ·simp at h
  ·simp at h
 | [], _ :: _, _, _, _, _, _, _, h, _, _ => h.elim
 | _ :: _, [], _, _, _, _, _, _, h, _, _ => h.elim
theorem Zkf {P : Program} {x : Ctx} : ∀ (vs : List V) (args : List Value) (l l' : Bool) (k k' : IntKind) (n n' : Int), RVs x vs args → inR k n → Zkg (l, k, n) vs = some (l', k', n') →
  inR k' n' ∧ ∀ w, (args.foldlM Builtin.max2 (.int k n)).run P w = .ok (.int k' n') w
 | [], [], l, l', k, k', n, n', _, hk, h => by
  simp only [Zkg, oinj, pinj] at h
  obtain ⟨_, rfl, rfl⟩ := h
  exact ⟨hk, fun w => rfl⟩
 | v :: vs, u :: args, l, l', k, k', n, n', hv, hk, h => by
  unfold Zkg at h
  split at h
  ·simp at *
  ·rename_i l1 k1 n1 r heq
   obtain ⟨rfl, rfl⟩ := heq
   split at h
   ·rename_i hkk
    have := Zco hkk
    subst this
    obtain ⟨e1, e2⟩ := ZbA (show RA x (.int l1 k1 n1) u from hv.1)
    subst e1
    obtain ⟨h1, h2⟩ := Zkf vs args _ _ _ _ _ _ hv.2 (by simp only; split <;> assumption) h
    refine ⟨h1, fun w => ?_⟩
    simp only [List.foldlM_cons, Sem.run_bind, Builtin.max2, Sem.run_pure, Result.andThen_ok]
    exact h2 w
   ·simp at h
  ·simp at h
 | [], _ :: _, _, _, _, _, _, _, h, _, _ => h.elim
 | _ :: _, [], _, _, _, _, _, _, h, _, _ => h.elim
theorem Zgj {P : Program} {x : Ctx} {s : St} {w : World} {b : Builtin} {ts : List TypeId} {vs : List V} {args : List Value} {r : Res} (ty : TypeId) (cs : Array Bool) (hm : MemR x s.mem w) (hv : RVs x vs args) (hb : b ≠ .append) (h : Zb2 P s b ts vs = some r) :
  ∃ v, (∀ w', (builtin b ts.toArray ty cs args.toArray).run P w' = .ok (.value v) w') ∧ RV x r.v v := by
 unfold Zb2 at h
 split at h
 ·rename_i l k n vs'
  split at h
  ·rename_i l' k' n' hf
   simp only [ZaE, oinj] at h; subst h
   cases args with
   | nil => exact hv.elim
   | cons u args =>
    obtain ⟨e1, e2⟩ := ZbA (show RA x (.int l k n) u from hv.1)
    subst e1
    obtain ⟨h1, h2⟩ := Zkd (P := P) vs' args _ _ _ _ _ _ hv.2 e2 hf
    exact ⟨_, fun w => by simp [builtin, Builtin.min_, h2 w], .int _ _ _ _ h1⟩
  ·simp at h
 ·rename_i l k n vs'
  split at h
  ·rename_i l' k' n' hf
   simp only [ZaE, oinj] at h; subst h
   cases args with
   | nil => exact hv.elim
   | cons u args =>
    obtain ⟨e1, e2⟩ := ZbA (show RA x (.int l k n) u from hv.1)
    subst e1
    obtain ⟨h1, h2⟩ := Zkf (P := P) vs' args _ _ _ _ _ _ hv.2 e2 hf
    exact ⟨_, fun w => by simp [builtin, Builtin.max_, h2 w], .int _ _ _ _ h1⟩
  ·simp at h
 ·rename_i t v
  match args, hv with
  | [u], hv =>
   obtain ⟨_, _, _, u', h1, h2⟩ := ZGB (P := P) (ty := ty) hm hv.1 h
   exact ⟨u', fun w' => by simp [builtin, h1 w'], h2⟩
 ·exact absurd rfl hb
 ·simp at h
theorem Ztc {P : Program} {x : Ctx} {s : St} {w : World} {b : Builtin} {ts : List TypeId} {vs : List V} {args : List Value} {r : Res} (ty : TypeId) (cs : Array Bool) (hm : MemOk x s.mem w) (hv : RVs x vs args) (h : Zb2 P s b ts vs = some r) (hc : r.chk ≠ some false) :
  ∃ v w' x', (builtin b ts.toArray ty cs args.toArray).run P w = .ok (.value v) w' ∧ RV x' r.v v ∧ MemOk x' r.m w' ∧ Ext x x' ∧ Step x w w' := by
 by_cases hb : b = .append
 ·subst hb
  unfold Zb2 at h
  split at h
  all_goals try (rename Builtin.append = _ => heq; cases heq; done)
  ·rename_i t t' xa ya
   match args, hv with
   | [u, u'], hv =>
    obtain ⟨v, w', x', h1, h2, h3, h4, h5⟩ := Zxh (P := P) hm hv.1 hv.2.1 ty h hc
    exact ⟨v, w', x', by simp [builtin, h1], h2, h3, h4, h5⟩
  ·simp at h
 ·obtain ⟨v, h1, h2⟩ := Zgj ty cs hm.toR hv hb h
  have hk : r.m = s.mem := by
   unfold Zb2 at h
   split at h
   ·split at h
    ·simp only [ZaE, oinj] at h; subst h; rfl
    ·simp at h
   ·split at h
    ·simp only [ZaE, oinj] at h; subst h; rfl
    ·simp at h
   ·unfold lenA at h
    repeat' split at h
    all_goals first
     | (simp only [ZaE, oinj] at h; subst h; rfl)
     | (simp at h; done)
   ·exact absurd rfl hb
   ·simp at h
  exact ⟨v, w, x, h1 w, h2, by rw [hk]; exact hm, Ext.refl x, Step.refl x w⟩
theorem RVs.append {x : Ctx} : ∀ {l l' : List V} {vs vs' : List Value}, RVs x l vs → RVs x l' vs' → RVs x (l ++ l') (vs ++ vs')
 | [], _, [], _, _, h' => by simpa using h'
 | _ :: _, _, _ :: _, _, h, h' => ⟨h.1, RVs.append h.2 h'⟩
 | [], _, _ :: _, _, h, _ => h.elim
 | _ :: _, _, [], _, h, _ => h.elim
theorem Zkv {x : Ctx} : ∀ (caps : List A) (cs : List Value) (c : Nat → Value), len cs = len caps → (∀ j a, nth caps j = some a → nth cs j = some (c j)) → (∀ j a, nth caps j = some a → RA x a (c j)) →
  RVs x (caps.map fun a => .w (.one a)) cs
 | [], [], _, _, _, _ => trivial
 | a :: caps, v :: cs, c, hl, hc, hr => by
  refine ⟨?_, Zkv caps cs (fun j => c (j + 1)) (by simpa [len] using hl) (fun j a h => hc (j + 1) a h) (fun j a h => hr (j + 1) a h)⟩
  have h1 := hc 0 a rfl
  have h2 := hr 0 a rfl
  simp only [nth, oinj] at h1
  subst h1; exact h2
 | [], _ :: _, _, h, _, _ => by simp [len] at h
 | _ :: _, [], _, h, _, _ => by simp [len] at h
theorem ZcP {E : Env} (hE : Za1 E) {x : Ctx} {s : St} {a : Act} (hf : RF x s.slots a.tmps) {o : Oper} {c : Call} (ho : o.op = .call c) {e : Entry} {caps : List V} (h : Zaq E s c = some (e, caps)) {vs : List V}
  (hvs : opds s c.args.toList = some vs) :
  ∃ f args, Zc E.P f e ∧ RVs x (vs ++ caps) args ∧ (ZG E.P f → ∀ w, (execOp a.eval o).run E.P w = .ok (.enter f args.toArray) w) := by
 unfold Zaq at h
 split at h
 ·rename_i fo hc
  split at h
  ·rename_i f cs hcs
   split at h
   ·rename_i e' he
    simp only [oinj, pinj] at h
    obtain ⟨rfl, rfl⟩ := h
    have hv := Zad hf hcs
    generalize hev : a.eval fo = fv at *
    cases hv with
    | clo _ _ _ C cc h1 h2 h3 =>
     refine ⟨f, c.args.toList.map a.eval ++ C, (hE f e' he).plain, RVs.append (ZgG hf hvs) (Zkv _ _ _ h1 h2 h3), fun hcall w => ?_⟩
     simp [execOp, ho, resolve, hc, hev, Deferred.ofValue, invoke]
     rw [hcall]
     congr 2
     apply Array.ext'; simp
   ·simp at h
  ·simp at h
 ·simp at h
theorem ZbO {P : Program} {a : Act} {o : Oper} {w w' : World} {v : Value} {next : Act → World → Prop} {Q : Exit → Act → World → Prop} (h : ZID P a o w v w') (hn : next (a.put o.dst v) w') : o.wp P a w next Q := by
 rcases h with h | ⟨h, rfl⟩
 ·simp only [Oper.wp, h, Oper.upon]; exact hn
 ·simp only [Oper.wp, h, Oper.upon]; exact hn
theorem Zkq {P : Program} {a : Act} {o : Oper} {c : Call} {b : Builtin} (ho : o.op = .call c) (hc : c.callee = .builtin b) (w : World) :
  (execOp a.eval o).run P w = (builtin b c.argTypes o.type (c.args.map fun | .const _ => true | _ => false) (c.args.toList.map a.eval).toArray).run P w := by
 simp [execOp, ho, resolve, hc, invoke]
 congr 2
 apply Array.ext'; simp
theorem Zks {P : Program} {s : St} {t : TypeId} {x : A} {k : IntKind} {n : Int} {r : Res} : ∀ {m j : Nat}, (Zg1 P s t x k n m j).val = some r → ∃ j : Nat, n = (j : Int) ∧ Zal P s t x (.int true k j) = some r
 | 0, j, h => by simp [Zg1, RT.val] at h
 | m + 1, j, h => by
  simp only [Zg1, RT.val] at h
  cases hn : n == (j : Int) with
  | true => rw [hn] at h; exact ⟨j, by simpa using hn, h⟩
  | false => rw [hn] at h; exact Zks h
theorem ZDz {P : Program} {s : St} {t : TypeId} {xa i : A} {r : Res} (h : (idxT P s t xa i).val = some r) : ∃ i', (∀ (x : Ctx) v, RA x i v → RA x i' v) ∧ Zal P s t xa i' = some r := by
 unfold idxT at h
 split at h
 ·obtain ⟨j, rfl, h'⟩ := Zks h
  refine ⟨_, fun x v hv => ?_, h'⟩
  cases hv; exact .int _ _ _ _ (by assumption)
 ·exact ⟨_, fun _ _ h => h, h⟩
theorem Zqe {P : Program} {x : Ctx} {m0 : Mem} {s : St} {a : Act} {w : World} {o : Oper} {t : TypeId} {y i : Operand} {xa ia : A} {r : Res} (hf : RF x s.slots a.tmps) (hr : MemR x s.mem w) (hm : MemOk x m0 w) (ho : o.op = .indexAddr t y i)
  (hp : opd1 s y = some xa) (hi : opd1 s i = some ia) (h : (idxT P s t xa ia).val = some r) (hc : r.chk ≠ some false) : Zxj P x m0 s a o w r := by
 obtain ⟨i', hi', h⟩ := ZDz h
 obtain ⟨e1, e2, e3, v, h1, h2⟩ := Zf7 hr (Zad hf hp) (hi' _ _ (Zad hf hi)) h hc
 exact .of hm e1 e2 e3 (by simp [execOp, ho, h1]) h2
theorem ZkL {E : Env} (hE : Za1 E) {x : Ctx} {w : World} {s : St} {a : Act} {o : Oper} {r : Res} (hf : RF x s.slots a.tmps) (hd : a.defers = []) (hm : MemOk x s.mem w) (h : (Zab E s o).val = some r) (hc : r.chk ≠ some false)
  {K : Act → World → Prop} {Q : Exit → Act → World → Prop} (hK : ∀ v w' x', RV x' r.v v → MemOk x' r.m w' → Ext x x' → Step x w w' → K (a.put o.dst v) w') : o.wp E.P a w K Q := by
 unfold Zab at h
 split at h
 ·rename_i c ho
  split at h
  ·rename_i b hcb
   split at h
   ·rename_i vs hvs
    simp only [RT.val] at h
    obtain ⟨v, w', x', h1, h2, h3, h4, h5⟩ := Ztc (P := E.P) o.type (c.args.map fun | .const _ => true | _ => false) hm (ZgG hf hvs) h hc
    refine ZbO (v := v) (w' := w') (.inl (by rw [Zkq ho hcb]; simpa using h1)) (hK v w' x' h2 h3 h4 h5)
   ·simp [RT.val] at h
  ·split at h
   ·rename_i p caps vs hcal hvs
    split at h
    ·rename_i vs' s' hfz
     split at h
     ·rename_i chk v hp
      simp only [RT.val, oinj] at h; subst h
      obtain ⟨f, args, he, hargs, hrun⟩ := ZcP hE hf ho hcal hvs
      obtain ⟨x1, m1, e1, r1, k1⟩ := ZdC hm hargs hfz
      have hcalls := he.2 _ _ _ hp hc x1 s'.mem w args m1 r1
      simp only [Oper.wp, hrun he.1 w, Oper.upon]
      refine hcalls.mono fun e w' hres => ?_
      obtain ⟨val, x', rfl, hv, hm', hx, hw⟩ := hres
      exact hK val w' x' hv hm' (e1.trans hx) (hw.step hm)
     ·simp [RT.val] at h
    ·simp [RT.val] at h
   ·rename_i g caps vs hcal hvs
    split at h
    ·rename_i chk v hg
     simp only [RT.val, oinj] at h; subst h
     obtain ⟨f, args, he, hargs, hrun⟩ := ZcP hE hf ho hcal hvs
     have hcalls := he.2.2 _ _ _ _ hg hc x w args hm hargs
     simp only [Oper.wp, hrun he.1 w, Oper.upon]
     refine hcalls.mono fun e w' hres => ?_
     obtain ⟨val, x', rfl, hv, hm', hx, hw⟩ := hres
     exact hK val w' x' hv hm' hx (hw.step hm)
    ·simp [RT.val] at h
   ·rename_i g caps vs hcal hvs
    rw [RT.val_map] at h
    split at h
    ·rename_i r0 hg
     simp only [oinj] at h; subst h
     obtain ⟨f, args, he, hargs, hrun⟩ := ZcP hE hf ho hcal hvs
     have hcalls := he.2.2 _ _ _ hg hc x w args hm hargs
     simp only [Oper.wp, hrun he.1 w, Oper.upon]
     refine hcalls.mono fun e w' hres => ?_
     obtain ⟨val, x', rfl, hv, hm', hx, ht⟩ := hres
     exact hK val w' x' hv hm' hx ht
    ·simp at h
   ·simp [RT.val] at h
 ·rename_i t y i ho
  split at h
  ·rename_i xa ia hp hi
   obtain ⟨v, w', x', h1, h2, h3, h4, h5⟩ := (Zqe hf hm.toR hm ho hp hi h hc).sound hm
   exact ZbO h1 (hK v w' x' h2 h3 h4 h5)
  ·simp [RT.val] at h
 ·rename_i op hop
  simp only [RT.val] at h
  obtain ⟨v, w', x', h1, h2, h3, h4, h5⟩ := ZGX ⟨hf, hm, hd⟩ rfl h hc
  exact ZbO h1 (hK v w' x' h2 h3 h4 h5)
theorem Zll {E : Env} (hE : Za1 E) {x : Ctx} {m0 : Mem} {w : World} {s : St} {a : Act} {o : Oper} {chk : Option Bool} {v : V} {rd : Bool} (hf : RF x s.slots a.tmps) (hr : MemR x s.mem w) (hm : MemOk x m0 w) (hrd : rd = true → s.mem = m0) (h : Zbp E rd s o = some (chk, v)) (hc : chk ≠ some false)
  {K : Act → World → Prop} {Q : Exit → Act → World → Prop} (hK : ∀ u w' x', RV x' v u → MemOk x' m0 w' → Ext x x' → Zcd w w' → K (a.put o.dst u) w') : o.wp E.P a w K Q := by
 unfold Zbp at h
 split at h
 ·simp at h
 rename_i hfree
 simp only [Bool.and_eq_true, Bool.not_eq_true', Bool.or_eq_true] at hfree
 obtain ⟨⟨hchg, hfrz⟩, hread⟩ := hfree
 split at h
 case h_2 => simp at h
 rename_i r hres
 simp only [oinj, pinj] at h
 obtain ⟨rfl, rfl⟩ := h
 unfold Zab at hres
 split at hres
 ·rename_i c ho
  rw [ho] at hchg hfrz hread
  split at hres
  ·rename_i b hcb
   have hb : b ≠ .append := by
    intro e; subst e
    simp [Zhv, hcb] at hchg
   split at hres
   ·rename_i vs hvs
    simp only [RT.leaf.injEq] at hres
    obtain ⟨v, h1, h2⟩ := Zgj (P := E.P) o.type (c.args.map fun | .const _ => true | _ => false) hr (ZgG hf hvs) hb hres
    exact ZbO (v := v) (w' := w) (.inl (by rw [Zkq ho hcb]; simpa using h1 w)) (hK v w x h2 hm (Ext.refl x) (Zcd.refl w))
   ·simp at hres
  ·rename_i hnb
   split at hres
   ·rename_i p caps vs hcal hvs
    have hfr : (vs ++ caps).all (Zbd s.mem) = true := by
     have hfrz' : (match c.callee with
      | .builtin _ => true
      | _ => match Zaq E s c, opds s c.args.toList with
       | some (.read _, _), some _ => true
       | some (_, caps), some vs => (vs ++ caps).all (Zbd s.mem)
       | _, _ => false) = true := hfrz
     split at hfrz'
     ·rename_i b hcb; exact absurd hcb (hnb b)
     ·rw [hcal, hvs] at hfrz'; exact hfrz'
    split at hres
    ·rename_i vs' s' hfz
     split at hres
     ·rename_i chk v hp
      simp only [RT.leaf.injEq, oinj] at hres; subst hres
      obtain ⟨rfl, q2⟩ := Zka hr hfr hfz
      obtain ⟨f, args, he, hargs, hrun⟩ := ZcP hE hf ho hcal hvs
      have hcalls := he.2 _ _ _ hp hc x m0 w args hm (q2 _ hargs)
      simp only [Oper.wp, hrun he.1 w, Oper.upon]
      refine hcalls.mono fun e w' hres => ?_
      obtain ⟨val, x', rfl, hv, hm', hx, hw⟩ := hres
      exact hK val w' x' hv hm' hx hw
     ·simp at hres
    ·simp at hres
   ·rename_i g caps vs hcal hvs
    split at hres
    ·rename_i chk v hg
     simp only [RT.leaf.injEq, oinj] at hres; subst hres
     have hrd' : rd = true := by
      rcases hread with h | h
      ·exact h
      ·exfalso
       have h' : (match c.callee with
        | .value (.func f) => match E.calls f with
         | some (.read _) => true
         | _ => false
        | _ => false) = false := h
       have hchg' : (match c.callee with
        | .builtin .append => true
        | .builtin _ => false
        | .value (.func f) => match E.calls f with
         | some (.pure _) => false
         | some (.read _) => false
         | _ => true
        | _ => true) = false := hchg
       split at hchg'
       ·simp at hchg'
       ·rename_i b _ hcb; exact absurd hcb (hnb b)
       ·rename_i f hcf
        unfold Zaq at hcal
        rw [hcf] at hcal h'
        simp only [opd1, opd, Option.bind_some, V.one] at hcal h'
        cases he : E.calls f with
        | none => rw [he] at hcal; simp at hcal
        | some e =>
         rw [he] at hcal h'
         simp only [oinj, pinj] at hcal
         rw [Entry.plain_read hcal.1] at h'
         simp at h'
       ·simp at hchg'
     have hmm := hrd hrd'
     obtain ⟨f, args, he, hargs, hrun⟩ := ZcP hE hf ho hcal hvs
     have hcalls := he.2.2 _ _ _ _ hg hc x w args (by rw [hmm]; exact hm) hargs
     simp only [Oper.wp, hrun he.1 w, Oper.upon]
     refine hcalls.mono fun e w' hres => ?_
     obtain ⟨val, x', rfl, hv, hm', hx, hw⟩ := hres
     exact hK val w' x' hv (by rw [← hmm]; exact hm') hx hw
    ·simp at hres
   ·rename_i g caps vs hcal hvs
    exfalso
    have hchg' : (match c.callee with
     | .builtin .append => true
     | .builtin _ => false
     | .value (.func f) => match E.calls f with
      | some (.pure _) => false
      | some (.read _) => false
      | _ => true
     | _ => true) = false := hchg
    split at hchg'
    ·simp at hchg'
    ·rename_i b _ hcb; exact absurd hcb (hnb b)
    ·rename_i f hcf
     unfold Zaq at hcal
     rw [hcf] at hcal
     simp only [opd1, opd, Option.bind_some, V.one] at hcal
     split at hchg'
     ·rename_i p' hp'
      rw [hp'] at hcal
      simp [Entry.plain] at hcal
     ·rename_i p' hp'
      rw [hp'] at hcal
      simp [Entry.plain] at hcal
     ·simp at hchg'
    ·simp at hchg'
   ·simp at hres
 ·rename_i t y i ho
  split at hres
  ·rename_i xa ia hp hi
   obtain ⟨_, _, _, v, w', x', h1, h2, h3, h4, h5⟩ := Zqe hf hr hm ho hp hi (by rw [hres]; rfl) hc
   exact ZbO (.inl h1) (hK v w' x' h2 h3 h4 h5)
  ·simp at hres
 ·rename_i op hop hop2
  simp only [RT.leaf.injEq] at hres
  have hk : ZnT o.op = true := by
   revert hchg hop
   cases o.op <;> simp [Zhv, ZnT]
  obtain ⟨_, _, _, v, w', x', h1, h2, h3, h4, h5⟩ := Zqp hf hr hm rfl hk hfrz hres hc
  exact ZbO (.inl h1) (hK v w' x' h2 h3 h4 h5)
inductive Ty where
 | skip
 | free (v : V)
 | read (v : V) (rb : Option (Nat × Bool))
 | chain (r : Res) (tb : Option (Nat × Bool))
def Ty.isChain : Ty → Prop
 | .chain _ _ => True
 | _ => False
def Ty.isRead : Ty → Prop
 | .read _ _ => True
 | _ => False
def Ty.touch : Ty → Option (Nat × Bool)
 | .chain _ tb => tb
 | _ => none
def Ty.loc : Ty → Option (Nat × Bool)
 | .read _ rb => rb
 | _ => none
def Ty.bound (a b : Ty) : Prop := b.isChain ∧ a.isChain ∨ b.isChain ∧ a.isRead ∧ Zck b.touch a.loc = false ∨ b.isRead ∧ a.isChain ∧ Zck a.touch b.loc = false
def Zhq (ops : List Oper) (s : St) (g : Option (Nat × Bool)) (s1 : St) (w : Bool) : Prop :=
 match g with
 | none => s1 = s ∧ w = true
 | some (j, want) => ∃ o d, nth ops j = some o ∧ o.dst = some d ∧
   ((∃ b, nth s.slots d = some (.w (.one (.bool true b))) ∧ s1 = s ∧ w = (b == want)) ∨
    (∃ b, nth s.slots d = some (.w (.one (.bool false b))) ∧ s1 = put s (some d) (.w (.one (.bool true b))) ∧ w = (b == want)) ∨
    (nth s.slots d = some (.tup []) ∧ s1 = s ∧ w = false))
def Zgl (E : Env) (chg : Bool) (ops : List Oper) (s : St) (ty : Ty) (o : Oper) (s' : St) : Prop :=
 ∃ s1 w, Zhq ops s o.guard s1 w ∧ match ty with
  | .skip => w = false ∧ s' = put s1 o.dst Zg5
  | .free v => w = true ∧ ∃ chk, Zbp E (!chg) (Zvc chg (mask s1 o)) o = some (chk, v) ∧ chk ≠ some false ∧ s' = put s1 o.dst v
  | .read v rb => w = true ∧ chg = true ∧ rb = ZjR E (mask s1 o) o ∧ ∃ chk, Zbp E true (mask s1 o) o = some (chk, v) ∧ chk ≠ some false ∧ s' = put s1 o.dst v
  | .chain r tb => w = true ∧ chg = true ∧ tb = Zh9 E (mask s1 o) o ∧ (Zab E (mask s1 o) o).val = some r ∧ r.chk ≠ some false ∧ s' = putRes s1 o.dst r
inductive Waits (ops : List Oper) (i : Nat) : Nat → Prop
 | one (j : Nat) (o : Oper) (e : Edge) (h : nth ops j = some o) (he : e ∈ o.after) (hb : Region.binds .any e = true) (hi : e.on = i) : Waits ops i j
 | more (j : Nat) (o : Oper) (e : Edge) (h : nth ops j = some o) (he : e ∈ o.after) (hb : Region.binds .any e = true) (hi : Waits ops i e.on) : Waits ops i j
theorem Waits.trans {ops : List Oper} {i j k : Nat} (h : Waits ops i j) (h' : Waits ops j k) : Waits ops i k := by
 induction h' with
 | one k o e h1 he hb hi => exact .more k o e h1 he hb (hi ▸ h)
 | more k o e h1 he hb hi ih => exact .more k o e h1 he hb ih
theorem Zkk {i : Nat} : ∀ {l : List Edge}, tbit (emL l) i = true → ∃ e ∈ l, Region.binds .any e = true ∧ e.on = i
 | [], h => by simp [emL, Zia] at h
 | e :: l, h => by
  simp only [emL] at h
  split at h
  ·rename_i hb
   rw [ZcA, Bool.or_eq_true, Nat.beq_eq] at h
   rcases h with h | h
   ·exact ⟨e, List.mem_cons_self, hb, h⟩
   ·obtain ⟨e', h1, h2⟩ := Zkk h
    exact ⟨e', List.mem_cons_of_mem _ h1, h2⟩
  ·obtain ⟨e', h1, h2⟩ := Zkk h
   exact ⟨e', List.mem_cons_of_mem _ h1, h2⟩
theorem ZBs {i : Nat} : ∀ {l : List Edge} {e : Edge}, e ∈ l → Region.binds .any e = true → e.on = i → tbit (emL l) i = true
 | [], e, h, _, _ => by simp at h
 | e' :: l, e, h, hb, hi => by
  simp only [emL]
  rcases List.mem_cons.1 h with rfl | h
  ·rw [hb]; simp only; rw [ZcA, Bool.or_eq_true, Nat.beq_eq]; exact .inl hi
  ·split
   ·rw [ZcA, Bool.or_eq_true]; exact .inr (ZBs h hb hi)
   ·exact ZBs h hb hi
theorem ZjZ {q m : Nat} : ∀ {l : List Nat} {i : Nat}, tbit (Zw2 l i m) q = true → ∃ j c, nth l j = some c ∧ tbit m (i + j) = true ∧ tbit c q = true
 | [], i, h => by simp [Zw2, Zia] at h
 | c :: l, i, h => by
  simp only [Zw2] at h
  split at h
  ·rename_i hi
   rw [Zds, Bool.or_eq_true] at h
   rcases h with h | h
   ·exact ⟨0, c, rfl, hi, h⟩
   ·obtain ⟨j, c', h1, h2, h3⟩ := ZjZ h
    exact ⟨j + 1, c', h1, by rw [show i + (j + 1) = i + 1 + j by omega]; exact h2, h3⟩
  ·obtain ⟨j, c', h1, h2, h3⟩ := ZjZ h
   exact ⟨j + 1, c', h1, by rw [show i + (j + 1) = i + 1 + j by omega]; exact h2, h3⟩
theorem Zkn {ops : List Oper} : ∀ (l : List Oper) (acc : List Nat), (∀ k o, nth l k = some o → nth ops (acc.length + k) = some o) → (∀ j c q, nth acc j = some c → tbit c q = true → Waits ops q j) →
  ∀ j c q, nth (ZeP l acc) j = some c → tbit c q = true → Waits ops q j
 | [], acc, _, h, j, c, q, h1, h2 => h j c q h1 h2
 | o :: l, acc, hl, h, j, c, q, h1, h2 => by
  refine Zkn l _ (fun k o' hk => ?_) (fun j c q h1 h2 => ?_) j c q h1 h2
  ·have := hl (k + 1) o' hk
   rw [List.length_append, List.length_singleton, Nat.add_assoc, Nat.add_comm 1]; exact this
  ·rcases Zu h1 with h1 | ⟨rfl, rfl⟩
   ·exact h j c q h1 h2
   ·have ho : nth ops acc.length = some o := hl 0 o rfl
    rw [Zds, Bool.or_eq_true] at h2
    rcases h2 with h2 | h2
    ·obtain ⟨e, e1, e2, e3⟩ := Zkk h2
     exact .one _ o e ho (by simpa using e1) e2 e3
    ·obtain ⟨j', c', e1, e2, e3⟩ := ZjZ h2
     rw [Nat.zero_add] at e2
     obtain ⟨e, f1, f2, f3⟩ := Zkk e2
     have := h j' c' q e1 e3
     exact .more _ o e ho (by simpa using f1) f2 (f3 ▸ this)
theorem Zs9 {ops : List Oper} {i j : Nat} (h : rch (ZeP ops []) i j = true) : Waits ops i j := by
 unfold rch at h
 split at h
 ·rename_i m hm
  exact Zkn ops [] (fun k o hk => by simpa using hk) (fun j c q h1 => by simp [Zn] at h1) j m i hm h
 ·simp at h
theorem Zn2 {c : Option Bool} {s : St} {t : RT Out} (h : (chkT c s t).val.k ≠ .stop) : c ≠ some false ∧ (chkT c s t).val = t.val := by
 cases c with
 | none => exact ⟨by simp, rfl⟩
 | some b =>
  cases b with
  | true => exact ⟨by simp, rfl⟩
  | false => exact absurd rfl h
theorem Zw6 {ops : List Oper} {s : St} {g : Option (Nat × Bool)} {run skip : St → RT Out} (h : (Zli ops s g run skip).val.k ≠ .stop) :
  ∃ s1 w, Zhq ops s g s1 w ∧ (Zli ops s g run skip).val = (match w with | true => run s1 | false => skip s1).val := by
 unfold Zli at h ⊢
 split
 ·exact ⟨s, true, ⟨rfl, rfl⟩, rfl⟩
 ·rename_i j want
  simp only at h
  split
  ·rename_i o ho
   rw [ho] at h
   simp only at h
   split
   ·rename_i d hd
    rw [hd] at h
    simp only at h
    split
    ·rename_i b hs
     refine ⟨s, b == want, ⟨o, d, ho, hd, .inl ⟨b, hs, rfl, rfl⟩⟩, ?_⟩
     cases b == want <;> rfl
    ·rename_i b hs
     refine ⟨_, b == want, ⟨o, d, ho, hd, .inr (.inl ⟨b, hs, rfl, rfl⟩)⟩, ?_⟩
     cases b <;> cases want <;> rfl
    ·rename_i hs
     exact ⟨s, false, ⟨o, d, ho, hd, .inr (.inr ⟨hs, rfl, rfl⟩)⟩, rfl⟩
    ·rename_i h1 h2 h3
     exfalso
     split at h
     ·rename_i b hs; exact h1 b hs
     ·rename_i b hs; exact h2 b hs
     ·rename_i hs; exact h3 hs
     ·exact h rfl
   ·rename_i hd
    rw [hd] at h
    exact absurd rfl h
  ·rename_i ho
   rw [ho] at h
   exact absurd rfl h
structure Ord (ops : List Oper) (T : Nat → Ty) (i : Nat) (cs rs : List (Nat × Option (Nat × Bool))) (k : Nat) : Prop where
 cc : ∀ q, q ∈ cs → (T (i + k)).isChain → Waits ops q.1 (i + k)
 cr : ∀ q, q ∈ cs → (T (i + k)).isRead → Zck q.2 (T (i + k)).loc = false → Waits ops q.1 (i + k)
 rc : ∀ q, q ∈ rs → (T (i + k)).isChain → Zck (T (i + k)).touch q.2 = false → Waits ops q.1 (i + k)
 bd : ∀ k', k' < k → (T (i + k')).bound (T (i + k)) → Waits ops (i + k') (i + k)
theorem Zy4 {E : Env} {chg : Bool} {cls : List Nat} {ops : List Oper} (hcls : ∀ q i, rch cls q i = true → Waits ops q i) : ∀ (rest : List Oper) (i : Nat) (cs rs : List (Nat × Option (Nat × Bool))) (s : St), (Zc0 E chg cls ops rest i cs rs s).val.k ≠ .stop →
  ∃ (S : Nat → St) (T : Nat → Ty), S i = s ∧ (Zc0 E chg cls ops rest i cs rs s).val = ⟨.normal, S (i + rest.length)⟩ ∧ (∀ k o, nth rest k = some o → Zgl E chg ops (S (i + k)) (T (i + k)) o (S (i + k + 1))) ∧
   ∀ k, k < rest.length → Ord ops T i cs rs k
 | [], i, cs, rs, s, _ => ⟨fun _ => s, fun _ => .skip, rfl, rfl, fun k o h => by simp [Zn] at h, fun k h => by simp at h⟩
 | o :: rest, i, cs, rs, s, h => by
  simp only [Zc0] at h ⊢
  obtain ⟨s1, w, hg, hv⟩ := Zw6 h
  rw [hv] at h ⊢
  have fin : ∀ (ty : Ty) (s' : St) (cs' rs' : List (Nat × Option (Nat × Bool))), Zgl E chg ops s ty o s' → (Zc0 E chg cls ops rest (i + 1) cs' rs' s').val.k ≠ .stop → (∀ q, q ∈ cs → q ∈ cs') → (∀ q, q ∈ rs → q ∈ rs') →
    (ty.isChain → (i, ty.touch) ∈ cs' ∧ (∀ q, q ∈ cs → Waits ops q.1 i) ∧ ∀ q, q ∈ rs → Zck ty.touch q.2 = false → Waits ops q.1 i) → (ty.isRead → (i, ty.loc) ∈ rs' ∧ ∀ q, q ∈ cs → Zck q.2 ty.loc = false → Waits ops q.1 i) →
    ∃ (S : Nat → St) (T : Nat → Ty), S i = s ∧ (Zc0 E chg cls ops rest (i + 1) cs' rs' s').val = ⟨.normal, S (i + (o :: rest).length)⟩ ∧ (∀ k o', nth (o :: rest) k = some o' → Zgl E chg ops (S (i + k)) (T (i + k)) o' (S (i + k + 1))) ∧
     ∀ k, k < (o :: rest).length → Ord ops T i cs rs k := by
   intro ty s' cs' rs' hst hk hcs hrs hch hrd
   obtain ⟨S, T, h1, h2, h3, h4⟩ := Zy4 hcls rest (i + 1) cs' rs' s' hk
   have hi1 : ∀ k, i + (k + 1) = i + 1 + k := fun k => by omega
   refine ⟨fun k => if k = i then s else S k, fun k => if k = i then ty else T k, if_pos rfl, ?_, fun k o' hk' => ?_, fun k hk' => ?_⟩
   ·rw [h2]
    show _ = Out.mk .normal (if i + (o :: rest).length = i then s else S (i + (o :: rest).length))
    rw [if_neg (by simp), List.length_cons, hi1 rest.length]
   ·cases k with
    | zero =>
     simp only [nth, oinj] at hk'; subst hk'
     have e1 : (if i + 0 = i then s else S (i + 0)) = s := if_pos rfl
     have e2 : (if i + 0 = i then ty else T (i + 0)) = ty := if_pos rfl
     have e3 : (if i + 0 + 1 = i then s else S (i + 0 + 1)) = s' := by rw [if_neg (by omega)]; exact h1
     simp only [e1, e2, e3]; exact hst
    | succ k =>
     have := h3 k o' hk'
     show Zgl E chg ops (if i + (k + 1) = i then s else S (i + (k + 1))) (if i + (k + 1) = i then ty else T (i + (k + 1))) o' (if i + (k + 1) + 1 = i then s else S (i + (k + 1) + 1))
     rw [if_neg (by omega), if_neg (by omega), if_neg (by omega), hi1 k]; exact this
   ·have t0 : (if i + 0 = i then ty else T (i + 0)) = ty := if_pos rfl
    have ts : ∀ k, (if i + (k + 1) = i then ty else T (i + (k + 1))) = T (i + 1 + k) := fun k => by rw [if_neg (by omega), hi1 k]
    cases k with
    | zero =>
     refine ⟨fun q hq hc => ?_, fun q hq hc ha => ?_, fun q hq hc ha => ?_, fun k' hk' => by omega⟩
     ·simp only [t0] at hc; exact (hch hc).2.1 q hq
     ·simp only [t0] at hc ha; exact (hrd hc).2 q hq ha
     ·simp only [t0] at hc ha; exact (hch hc).2.2 q hq ha
    | succ k =>
     have q := h4 k (by simpa using hk')
     refine ⟨fun p hp hc => ?_, fun p hp hc ha => ?_, fun p hp hc ha => ?_, fun k' hk'' hb => ?_⟩
     ·simp only [ts] at hc; rw [hi1 k]; exact q.cc p (hcs p hp) hc
     ·simp only [ts] at hc ha; rw [hi1 k]; exact q.cr p (hcs p hp) hc ha
     ·simp only [ts] at hc ha; rw [hi1 k]; exact q.rc p (hrs p hp) hc ha
     ·rw [hi1 k]
      cases k' with
      | zero =>
       simp only [t0, ts] at hb
       rcases hb with ⟨h1, h2⟩ | ⟨h1, h2, h3⟩ | ⟨h1, h2, h3⟩
       ·exact q.cc _ (hch h2).1 h1
       ·exact q.rc _ (hrd h2).1 h1 h3
       ·exact q.cr _ (hch h2).1 h1 h3
      | succ k' =>
       simp only [ts] at hb
       rw [hi1 k']
       exact q.bd k' (by omega) hb
  cases w with
  | false =>
   simp only at h ⊢
   exact fin .skip _ cs rs ⟨s1, false, hg, rfl, rfl⟩ h (fun _ h => h) (fun _ h => h) (fun h => h.elim) (fun h => h.elim)
  | true =>
   simp only at h ⊢
   split at h
   ·rename_i chk v hfr
    obtain ⟨q1, q2⟩ := Zn2 h
    rw [q2] at h ⊢
    exact fin (.free v) _ cs rs ⟨s1, true, hg, rfl, chk, hfr, q1, rfl⟩ h (fun _ h => h) (fun _ h => h) (fun h => h.elim) (fun h => h.elim)
   ·rename_i hfr
    split at h
    ·split at h
     ·rename_i chk v hfr2
      split at h
      ·rename_i hall
       obtain ⟨q1, q2⟩ := Zn2 h
       rw [q2] at h ⊢
       refine fin (.read v _) _ cs (_ :: rs) ⟨s1, true, hg, rfl, rfl, rfl, chk, hfr2, q1, rfl⟩ h (fun _ h => h) (fun _ h => List.mem_cons_of_mem _ h) (fun h => h.elim) (fun _ => ⟨List.mem_cons_self, fun q hq ha => ?_⟩)
       have := List.all_eq_true.1 hall q hq
       simp only [Ty.loc] at ha
       rw [ha, Bool.false_or] at this
       exact hcls _ _ this
      ·exact absurd rfl h
     ·split at h
      ·rename_i hall
       simp only [Bool.and_eq_true] at hall
       simp only [RT.val_bind] at h ⊢
       cases hr : (Zab E (mask s1 o) o).val with
       | none => rw [hr] at h; exact absurd rfl h
       | some r =>
        rw [hr] at h
        simp only [ZG2] at h ⊢
        obtain ⟨q1, q2⟩ := Zn2 h
        rw [q2] at h ⊢
        refine fin (.chain r _) _ (_ :: cs) rs ⟨s1, true, hg, rfl, rfl, rfl, hr, q1, rfl⟩ h (fun _ h => List.mem_cons_of_mem _ h) (fun _ h => h) (fun _ => ⟨List.mem_cons_self, fun q hq => hcls _ _ (List.all_eq_true.1 hall.1 q hq), fun q hq ha => ?_⟩) (fun h => h.elim)
        have := List.all_eq_true.1 hall.2 q hq
        simp only [Ty.touch] at ha
        rw [ha, Bool.false_or] at this
        exact hcls _ _ this
      ·exact absurd rfl h
    ·exact absurd rfl h
theorem ZEK {t : Nat} : ∀ {l : List Nat}, t ∈ l → tbit (lmL l) t = true
 | [], h => by simp at h
 | a :: l, h => by
  simp only [lmL, ZcA, Bool.or_eq_true, Nat.beq_eq]
  rcases List.mem_cons.1 h with h | h
  ·exact .inl h.symm
  ·exact .inr (ZEK h)
theorem ZuX {ops : Array Oper} {o : Oper} {t : Nat} (h : t ∈ o.looksAt ops) : tbit (Zw0 ops.toList o) t = true := by
 unfold Oper.looksAt at h
 have hl : t ∈ ZnJ o → tbit (lmL (ZnJ o)) t = true := ZEK
 unfold Zw0
 rcases List.mem_append.1 h with h | h
 ·have := hl h
  split
  ·split
   ·split
    ·rw [ZcA, this, Bool.or_true]
    ·exact this
   ·exact this
  ·exact this
 ·split
  ·rename_i g _ hg
   rw [hg] at h
   simp only [Zk, Array.getElem?_toList] at h ⊢
   cases hq : ops[g]? with
   | none => rw [hq] at h; simp at h
   | some q =>
    rw [hq] at h
    simp only [Option.bind_some] at h ⊢
    cases hd : q.dst with
    | none => rw [hd] at h; simp at h
    | some d =>
     rw [hd] at h
     simp at h; subst h
     simp only; rw [ZcA]; simp
  ·rename_i hg
   rw [hg] at h; simp at h
theorem ZBR {ops : Array Oper} {a b : Oper} (h : Zqz ⟨a.dst, Zw0 ops.toList a, emL a.after.toList⟩ ⟨b.dst, Zw0 ops.toList b, emL b.after.toList⟩ = true) : a.apart ops b = true := by
 simp only [Zqz, Bool.and_eq_true, Bool.not_eq_true'] at h
 obtain ⟨⟨h1, h2⟩, h3⟩ := h
 unfold Oper.apart
 rw [Bool.and_eq_true]
 constructor
 ·cases hd : a.dst with
  | none => rfl
  | some d =>
   rw [hd] at h1 h2
   simp only [Bool.and_eq_true, Bool.not_eq_true', bne_iff_ne, ne_eq]
   constructor
   ·rw [Bool.eq_false_iff]; intro hc
    rw [List.contains_iff_mem] at hc
    have := ZuX hc
    simp only [ZDH] at h1
    rw [this] at h1; simp at h1
   ·intro e; rw [e] at h2; simp [ZIy] at h2
 ·cases hd : b.dst with
  | none => rfl
  | some d =>
   rw [hd] at h3
   simp only [Bool.not_eq_true']
   rw [Bool.eq_false_iff]; intro hc
   rw [List.contains_iff_mem] at hc
   have := ZuX hc
   simp only [ZDH] at h3
   rw [this] at h3; simp at h3
theorem Zj4 {ops : List Oper} : ∀ {l : List Oper} {j : Nat} {o : Oper}, nth l j = some o → nth (ZGK ops l) j = some ⟨o.dst, Zw0 ops o, emL o.after.toList⟩
 | [], j, o, h => by simp [Zn] at h
 | a :: l, 0, o, h => by simp only [nth, oinj] at h; subst h; rfl
 | a :: l, j + 1, o, h => Zj4 (l := l) h
theorem Zk4 {a : OI} {j : Nat} : ∀ {l : List OI} {k : Nat} {b : OI}, Zpu a j l = true → nth l k = some b → tbit b.em j = true ∨ Zqz a b = true
 | [], k, b, _, h => by simp [Zn] at h
 | c :: l, 0, b, hp, h => by
  simp only [nth, oinj] at h; subst h
  simp only [Zpu, Bool.and_eq_true, Bool.or_eq_true] at hp; exact hp.1
 | c :: l, k + 1, b, hp, h => by
  simp only [Zpu, Bool.and_eq_true] at hp
  exact Zk4 hp.2 h
theorem Zu1 : ∀ {l : List OI} {i k : Nat} {a : OI}, lexI i l = true → nth l k = some a → a.em < 2 ^ (i + k) ∧ ∀ m b, k < m → nth l m = some b → tbit b.em (i + k) = true ∨ Zqz a b = true
 | [], i, k, a, _, h => by simp [Zn] at h
 | c :: l, i, 0, a, hl, h => by
  simp only [nth, oinj] at h; subst h
  simp only [lexI, Bool.and_eq_true, Nat.blt_eq] at hl
  refine ⟨?_, fun m b hm hb => ?_⟩
  ·have := hl.1.1
   have e : Nat.shiftLeft 1 i = 2 ^ i := by
    have : Nat.shiftLeft 1 i = 1 <<< i := rfl
    rw [this, Nat.one_shiftLeft]
   rw [e] at this; simpa using this
  ·cases m with
   | zero => omega
   | succ m => exact Zk4 hl.1.2 hb
 | c :: l, i, k + 1, a, hl, h => by
  simp only [lexI, Bool.and_eq_true] at hl
  obtain ⟨h1, h2⟩ := Zu1 hl.2 h
  have e : i + (k + 1) = i + 1 + k := by omega
  rw [e]
  refine ⟨h1, fun m b hm hb => ?_⟩
  cases m with
  | zero => omega
  | succ m => exact h2 m b (by omega) hb
theorem ZjU {ops : Array Oper} (h : lexL ops.toList = true) : ∀ j oj, ops[j]? = some oj → (∀ e ∈ oj.after, Region.binds .any e = true → e.on < j) ∧
  ∀ l ol, j < l → ops[l]? = some ol → (∀ e ∈ ol.after, Region.binds .any e = true → e.on ≠ j) → oj.apart ops ol = true := by
 intro j oj ho
 have ho' : nth ops.toList j = some oj := by rw [Zk]; simpa using ho
 obtain ⟨h1, h2⟩ := Zu1 h (Zj4 ho')
 rw [Nat.zero_add] at h1 h2
 refine ⟨fun e he hb => ?_, fun l ol hlt hol hno => ?_⟩
 ·have := ZBs (l := oj.after.toList) (by simpa using he) hb rfl
  rcases Nat.lt_or_ge e.on j with h | h
  ·exact h
  ·exfalso
   rw [Ze8] at this
   have h3 : emL oj.after.toList < 2 ^ e.on := Nat.lt_of_lt_of_le h1 (Nat.pow_le_pow_right (by decide) h)
   rw [Nat.testBit_lt_two_pow h3] at this; simp at this
 ·have hol' : nth ops.toList l = some ol := by rw [Zk]; simpa using hol
  rcases h2 l _ hlt (Zj4 hol') with h3 | h3
  ·exfalso
   obtain ⟨e, e1, e2, e3⟩ := Zkk h3
   exact hno e (by simpa using e1) e2 e3
  ·exact ZBR h3
theorem ZkA {ops : List Oper} {a : Act} {j d : Nat} {o : Oper} (h1 : nth ops j = some o) (h2 : o.dst = some d) :
  yielded ops.toArray a.tmps j = match a.tmps.getD d undef with | .bool b => some b | _ => none := by
 rw [Zk] at h1
 simp only [yielded, List.getElem?_toArray, h1, Option.bind_some, h2]
 rw [Array.getD_eq_getD_getElem?]
 cases a.tmps[d]? with
 | none => rfl
 | some v => cases v <;> rfl
theorem Zbx (s : St) (d : Option Nat) (v : V) : (put s d v).slots.length = s.slots.length := by cases d <;> simp [put, Zz]
theorem Zbr {ops : List Oper} {s s1 : St} {g : Option (Nat × Bool)} {w : Bool} (h : Zhq ops s g s1 w) : s1.slots.length = s.slots.length ∧ s1.mem = s.mem := by
 unfold Zhq at h
 split at h
 ·obtain ⟨rfl, _⟩ := h; exact ⟨rfl, rfl⟩
 ·obtain ⟨o, d, _, _, h⟩ := h
  rcases h with ⟨b, _, rfl, _⟩ | ⟨b, _, rfl, _⟩ | ⟨_, rfl, _⟩
  ·exact ⟨rfl, rfl⟩
  ·exact ⟨Zbx _ _ _, rfl⟩
  ·exact ⟨rfl, rfl⟩
theorem Zj7 {ops : List Oper} {s s1 : St} {g : Option (Nat × Bool)} {w : Bool} (h : Zhq ops s g s1 w) {x : Ctx} {t : Nat} {u : Value} (hu : ∀ v, nth s.slots t = some v → RV x v u) : ∀ v, nth s1.slots t = some v → RV x v u := by
 unfold Zhq at h
 split at h
 ·obtain ⟨rfl, _⟩ := h; exact hu
 ·obtain ⟨o, d, _, _, h⟩ := h
  rcases h with ⟨b, _, rfl, _⟩ | ⟨b, hb, rfl, _⟩ | ⟨_, rfl, _⟩
  ·exact hu
  ·intro v hv
   rcases Zc5 hv with ⟨rfl, rfl, _⟩ | ⟨_, hv⟩
   ·have := ZbE (show RA x (.bool false b) u from hu _ hb)
    subst this; exact .bool _ _ _
   ·exact hu v hv
  ·exact hu
theorem ZnP {ops : List Oper} {s s1 : St} {o : Oper} {w : Bool} {a : Act} {x : Ctx} (h : Zhq ops s o.guard s1 w)
  (hu : ∀ j want oj d, o.guard = some (j, want) → nth ops j = some oj → oj.dst = some d → ∀ v, nth s.slots d = some v → RV x v (a.tmps.getD d undef)) : Region.wanted o (yielded ops.toArray a.tmps) = w := by
 unfold Zhq at h
 split at h
 ·rename_i hg
  simp [Region.wanted, hg, h.2]
 ·rename_i j want hg
  obtain ⟨oj, d, hj, hd, h⟩ := h
  have hy := ZkA (a := a) hj hd
  have hw : Region.wanted o (yielded ops.toArray a.tmps) = ((match a.tmps.getD d undef with | .bool b => some b | _ => none) == some want) := by simp only [Region.wanted, hg, hy]
  have hu' := hu j want oj d hg hj hd
  rcases h with ⟨b, hb, _, rfl⟩ | ⟨b, hb, _, rfl⟩ | ⟨hb, _, rfl⟩
  ·have := ZbE (show RA x (.bool true b) _ from hu' _ hb)
   rw [hw, this]; cases b <;> cases want <;> rfl
  ·have := ZbE (show RA x (.bool false b) _ from hu' _ hb)
   rw [hw, this]; cases b <;> cases want <;> rfl
  ·obtain ⟨C, hC, _⟩ := hu' _ hb
   rw [hw, hC]; rfl
theorem ZpZ (ts : List Nat) : ∀ (i : Nat) (l : List V), (Zp0 ts i l).length = l.length
 | _, [] => rfl
 | i, v :: l => by simp [Zp0, ZpZ ts (i + 1) l]
theorem ZpY (ts : List Nat) : ∀ (i : Nat) (l : List V) (j : Nat) (v : V), nth (Zp0 ts i l) j = some v → (memN ts (i + j) = true ∧ nth l j = some v) ∨ v = .w .junk
 | _, [], j, v, h => by simp [Zp0, Zn] at h
 | i, u :: l, 0, v, h => by
  simp only [Zp0, nth, oinj] at h
  split at h
  ·rename_i hm; exact .inl ⟨by simpa using hm, by simp [nth, h]⟩
  ·exact .inr h.symm
 | i, u :: l, j + 1, v, h => by
  simp only [Zp0, nth] at h
  rcases ZpY ts (i + 1) l j v h with ⟨h1, h2⟩ | h1
  ·exact .inl ⟨by rw [show i + (j + 1) = i + 1 + j by omega]; exact h1, h2⟩
  ·exact .inr h1
theorem ZGt {x : Ctx} {s : St} {o : Oper} {a : Act} (hs : s.slots.length = a.tmps.size) (h : ∀ t, t ∈ ZnJ o → ∀ v, nth s.slots t = some v → RV x v (a.tmps.getD t undef)) : RF x (mask s o).slots a.tmps := by
 refine ⟨by simp only [mask, ZpZ]; exact hs, fun i v hv => ?_⟩
 rcases ZpY _ 0 _ i v hv with ⟨h1, h2⟩ | h1
 ·rw [Nat.zero_add, ZuS] at h1
  exact h i h1 v h2
 ·subst h1; trivial
theorem Zhp {P : Program} {s : St} {ts : List TypeId} {vs : List V} {r : Res} (h : Zb2 P s .append ts vs = some r) : r.m.boxes = s.mem.boxes := by
 unfold Zb2 at h
 split at h
 all_goals first
  | (simp at *; done)
  | skip
 rename_i t t' x y _ _ _
 unfold Zg2 at h
 repeat' (split at h)
 all_goals first
  | (simp at h; done)
  | (simp only [oinj] at h; subst h; rfl)
theorem ZdF {s s' : St} {a b : A} (h : Z7 s a = some (b, s')) : s'.mem.boxes = s.mem.boxes := by
 unfold Z7 at h
 repeat' (split at h)
 all_goals first
  | (simp at h; done)
  | (simp only [oinj, pinj] at h; obtain ⟨_, rfl⟩ := h; rfl)
theorem ZdD : ∀ {l l' : List A} {s s' : St}, Z6 s l = some (l', s') → s'.mem.boxes = s.mem.boxes
 | [], _, _, _, h => by simp only [Z6, oinj, pinj] at h; obtain ⟨_, rfl⟩ := h; rfl
 | a :: l, _, s, s', h => by
  simp only [Z6] at h
  split at h
  ·rename_i b s1 h1
   split at h
   ·rename_i r s2 h2
    simp only [oinj, pinj] at h; obtain ⟨_, rfl⟩ := h
    rw [ZdD h2, ZdF h1]
   ·simp at h
  ·simp at h
theorem ZnR {s s' : St} {a b : W} (h : Zag s a = some (b, s')) : s'.mem.boxes = s.mem.boxes := by
 unfold Zag at h
 repeat' (split at h)
 all_goals first
  | (simp at h; done)
  | (rename_i h1; simp only [oinj, pinj] at h; obtain ⟨_, rfl⟩ := h; exact ZdF h1)
  | (rename_i h1; simp only [oinj, pinj] at h; obtain ⟨_, rfl⟩ := h; exact ZdD h1)
  | (simp only [oinj, pinj] at h; obtain ⟨_, rfl⟩ := h; rfl)
theorem ZnS {s s' : St} {a b : V} (h : Zaz s a = some (b, s')) : s'.mem.boxes = s.mem.boxes := by
 unfold Zaz at h
 repeat' (split at h)
 all_goals first
  | (simp at h; done)
  | (rename_i h1; simp only [oinj, pinj] at h; obtain ⟨_, rfl⟩ := h; exact ZnR h1)
  | (simp only [oinj, pinj] at h; obtain ⟨_, rfl⟩ := h; rfl)
theorem Ze3 : ∀ {l l' : List V} {s s' : St}, ZT s l = some (l', s') → s'.mem.boxes = s.mem.boxes
 | [], _, _, _, h => by simp only [ZT, oinj, pinj] at h; obtain ⟨_, rfl⟩ := h; rfl
 | a :: l, _, s, s', h => by
  simp only [ZT] at h
  split at h
  ·rename_i b s1 h1
   split at h
   ·rename_i r s2 h2
    simp only [oinj, pinj] at h; obtain ⟨_, rfl⟩ := h
    rw [Ze3 h2, ZnS h1]
   ·simp at h
  ·simp at h
theorem ZdE : ∀ {l l' : List (Nat × Option (List A))} {s s' : St}, ZaL s l = some (l', s') → s'.mem.boxes = s.mem.boxes
 | [], _, _, _, h => by simp only [ZaL, oinj, pinj] at h; obtain ⟨_, rfl⟩ := h; rfl
 | (i, some a) :: l, _, s, s', h => by
  simp only [ZaL] at h
  split at h
  ·rename_i b s1 h1
   split at h
   ·rename_i r s2 h2
    simp only [oinj, pinj] at h; obtain ⟨_, rfl⟩ := h
    rw [ZdE h2, ZdD h1]
   ·simp at h
  ·simp at h
 | (i, none) :: l, _, s, s', h => by simp [ZaL] at h
theorem Zhw {E : Env} {s : St} {t : TypeId} {n : Nat} {parts : Array (Nat × Operand)} {r : Res} (h : evOp E s (.buildSlice t n parts) = some r) : r.m.boxes = s.mem.boxes := by
 simp only [evOp] at h
 split at h
 ·unfold ZdI at h
  split at h
  ·rename_i ps s' h1
   rw [← ZdE h1]
   unfold Zb0 at h
   repeat' (split at h)
   all_goals first
    | (simp at h; done)
    | (simp only [oinj] at h; subst h; rfl)
  ·simp at h
 ·unfold ZcQ at h
  split at h
  ·rename_i ps s' h1
   rw [← ZdE h1]
   unfold Zb1 at h
   repeat' (split at h)
   all_goals first
    | (simp at h; done)
    | (simp only [oinj] at h; subst h; rfl)
  ·simp at h
theorem ZqO {E : Env} {s : St} {t : TypeId} {x : Operand} {lo hi mx : Option Operand} {r : Res} (h : evOp E s (.slice t x lo hi mx) = some r) : r.m.boxes = s.mem.boxes := by
 simp only [evOp] at h
 split at h
 ·unfold ZkM at h
  split at h
  ·rename_i x' s' h1
   rw [← ZdF h1]
   split at h
   ·simp at h
   ·unfold sliceB at h
    repeat' (split at h)
    all_goals first
     | (simp at h; done)
     | (simp only [oinj] at h; subst h; rfl)
  ·simp at h
 ·simp at h
theorem ZkG {E : Env} (hE : Za1 E) {s : St} {o : Oper} {r : Res} {b' : Nat} {st : Bool} (h : (Zab E s o).val = some r) (ht : Zh9 E s o = some (b', st)) : s.mem.boxes.length ≤ r.m.boxes.length ∧ (st = false → r.m.stgs = s.mem.stgs) ∧ ∀ b, b ≠ b' → b < s.mem.boxes.length → nth r.m.boxes b = nth s.mem.boxes b := by
 have nb : ∀ (l : List A), (ZfW s l).m.boxes = s.mem.boxes ++ [l] := fun l => rfl
 have app : ∀ (l : List A), s.mem.boxes.length ≤ (ZfW s l).m.boxes.length ∧ (st = false → (ZfW s l).m.stgs = s.mem.stgs) ∧ ∀ b, b ≠ b' → b < s.mem.boxes.length → nth (ZfW s l).m.boxes b = nth s.mem.boxes b := fun l =>
  ⟨by rw [nb]; simp, fun _ => rfl, fun b _ hb => by rw [nb, Zk, Zk, List.getElem?_append_left hb]⟩
 unfold Zh9 at ht
 split at ht
 ·rename_i t p x ho
  split at ht
  ·rename_i b0 o0 hp
   simp only [oinj, pinj] at ht; obtain ⟨rfl, rfl⟩ := ht
   unfold Zab at h
   rw [ho] at h
   simp only [RT.val, evOp, hp] at h
   split at h
   ·rename_i p' l hp' _
    simp only [oinj] at hp'; subst hp'
    simp only [Zoo] at h
    split at h
    ·simp at h
    ·split at h
     ·simp at h
     ·split at h
      ·simp at h
      ·split at h
       ·simp at h
       ·simp only [oinj] at h; subst h
        exact ⟨by simp [Zz], fun _ => rfl, fun b hb _ => by rw [Zt (fun e => hb e.symm)]⟩
   ·simp at h
  ·simp at ht
 ·rename_i t ho
  simp only [oinj, pinj] at ht; obtain ⟨rfl, rfl⟩ := ht
  unfold Zab at h
  rw [ho] at h
  simp only [RT.val, evOp, Option.map_eq_some_iff] at h
  obtain ⟨l, _, rfl⟩ := h
  exact app l
 ·rename_i t x ho
  simp only [oinj, pinj] at ht; obtain ⟨rfl, rfl⟩ := ht
  unfold Zab at h
  rw [ho] at h
  simp only [RT.val, evOp, Option.map_eq_some_iff] at h
  obtain ⟨l, _, rfl⟩ := h
  exact app l
 ·rename_i c ho
  split at ht
  ·rename_i hcal
   simp only [oinj, pinj] at ht; obtain ⟨rfl, rfl⟩ := ht
   unfold Zab at h
   rw [ho] at h
   simp only [hcal] at h
   have hb := h
   split at h
   ·rename_i vs hvs
    simp only [RT.val] at h
    exact ⟨Nat.le_of_eq (by rw [Zhp h]), fun e => by simp at e, fun b _ _ => by rw [Zhp h]⟩
   ·simp [RT.val] at h
  ·rename_i f hcal
   split at ht
   ·rename_i g hg
    split at ht
    ·rename_i vs hvs
     obtain ⟨b0, hb0, hbe⟩ := Option.map_eq_some_iff.1 ht
     simp only [pinj] at hbe
     obtain ⟨rfl, rfl⟩ := hbe
     have hc : Zaq E s c = some (.tree g, []) := by
      unfold Zaq; rw [hcal]; simp only [opd1, opd, Option.bind_some, V.one, hg, List.map_nil, Entry.plain]
     unfold Zab at h
     rw [ho] at h
     simp only [hcal, hc, hvs, List.append_nil] at h
     rw [RT.val_map] at h
     split at h
     ·rename_i r0 hr0
      simp only [oinj] at h; subst h
      obtain ⟨b1, h1, h2, h3, h4⟩ := (hE f _ hg).2 vs s.mem r0 hr0
      rw [hb0] at h1
      simp only [oinj] at h1; subst h1
      exact ⟨h3, fun _ => h2, fun b hb _ => h4 b hb⟩
     ·simp at h
    ·simp at ht
   ·rename_i p hg
    simp only [oinj, pinj] at ht; obtain ⟨rfl, rfl⟩ := ht
    have hc : Zaq E s c = some (.pure p, []) := by
     unfold Zaq; rw [hcal]; simp only [opd1, opd, Option.bind_some, V.one, hg, List.map_nil, Entry.plain]
    unfold Zab at h
    rw [ho] at h
    simp only [hcal, hc] at h
    split at h
    ·rename_i p' caps vs hp' hvs
     simp only [oinj, pinj, Entry.pure.injEq] at hp'
     obtain ⟨rfl, rfl⟩ := hp'
     split at h
     ·rename_i vs' s' hfz
      split at h
      ·simp only [RT.val, oinj] at h; subst h
       have hb := Ze3 hfz
       exact ⟨Nat.le_of_eq (by simp only [ofSt]; rw [hb]), fun e => by simp at e, fun b _ _ => by simp only [ofSt]; rw [hb]⟩
      ·simp [RT.val] at h
     ·simp [RT.val] at h
    ·rename_i hp' _; simp at hp'
    ·rename_i hp' _; simp at hp'
    ·simp [RT.val] at h
   ·simp at ht
  ·simp at ht
 ·rename_i ho
  simp only [oinj, pinj] at ht; obtain ⟨rfl, rfl⟩ := ht
  unfold Zab at h
  rw [ho] at h
  simp only [RT.val] at h
  have hb := ZqO h
  exact ⟨Nat.le_of_eq (by rw [hb]), fun e => by simp at e, fun b _ _ => by rw [hb]⟩
 ·rename_i ho
  simp only [oinj, pinj] at ht; obtain ⟨rfl, rfl⟩ := ht
  unfold Zab at h
  rw [ho] at h
  simp only [RT.val] at h
  have hb := Zhw h
  exact ⟨Nat.le_of_eq (by rw [hb]), fun e => by simp at e, fun b _ _ => by rw [hb]⟩
 ·simp at ht
theorem ZkJ {m m' : Mem} (h : m'.stgs = m.stgs) (hh ver : Nat) : Zar m' hh ver = Zar m hh ver := by unfold Zar; rw [h]
theorem Zqj {m m' : Mem} (h : m'.stgs = m.stgs) (a : A) : ZbX m' a = ZbX m a := by
 cases a <;> simp only [ZbX]
 rw [ZkJ h]
theorem Zqi {m m' : Mem} (h : m'.stgs = m.stgs) (v : V) : Zbd m' v = Zbd m v := by
 have hf : ZbX m' = ZbX m := funext (Zqj h)
 cases v with
 | w w => cases w <;> simp only [Zbd, hf]
 | tup t => rfl
theorem Zhh {s s' t : St} (h : s'.mem.stgs = s.mem.stgs) {a b : A} (hf : Z7 s a = some (b, t)) : ∃ t', Z7 s' a = some (b, t') ∧ t'.mem.stgs = t.mem.stgs := by
 cases a with
 | tip hh ver =>
  simp only [Z7] at hf ⊢
  rw [ZkJ h]
  cases hg : Zar s.mem hh ver with
  | none => rw [hg] at hf; simp at hf
  | some g =>
   rw [hg] at hf
   simp only at hf ⊢
   cases hz : g.ffz with
   | true =>
    rw [hz] at hf
    simp only [oinj, pinj] at hf ⊢
    obtain ⟨rfl, rfl⟩ := hf
    exact ⟨s', ⟨rfl, rfl⟩, h⟩
   | false =>
    rw [hz] at hf
    simp only [oinj, pinj] at hf ⊢
    obtain ⟨rfl, rfl⟩ := hf
    exact ⟨_, ⟨rfl, rfl⟩, by simp only [h]⟩
 | sp _ _ _ _ => simp [Z7] at hf
 | _ =>
  simp only [Z7, oinj, pinj] at hf ⊢
  obtain ⟨rfl, rfl⟩ := hf
  exact ⟨s', ⟨rfl, rfl⟩, h⟩
theorem Zhf : ∀ {l r : List A} {s s' t : St}, s'.mem.stgs = s.mem.stgs → Z6 s l = some (r, t) → ∃ t', Z6 s' l = some (r, t') ∧ t'.mem.stgs = t.mem.stgs
 | [], _, s, s', t, h, hf => by
  simp only [Z6, oinj, pinj] at hf ⊢
  obtain ⟨rfl, rfl⟩ := hf
  exact ⟨s', ⟨rfl, rfl⟩, h⟩
 | a :: l, _, s, s', t, h, hf => by
  simp only [Z6] at hf ⊢
  split at hf
  ·rename_i b s1 h1
   split at hf
   ·rename_i r s2 h2
    simp only [oinj, pinj] at hf
    obtain ⟨rfl, rfl⟩ := hf
    obtain ⟨t1, e1, k1⟩ := Zhh h h1
    obtain ⟨t2, e2, k2⟩ := Zhf k1 h2
    exact ⟨t2, by rw [e1]; simp only [e2], k2⟩
   ·simp at hf
  ·simp at hf
theorem Zql {s s' t : St} (h : s'.mem.stgs = s.mem.stgs) {v r : V} (hf : Zaz s v = some (r, t)) : ∃ t', Zaz s' v = some (r, t') ∧ t'.mem.stgs = t.mem.stgs := by
 cases v with
 | tup l =>
  simp only [Zaz, oinj, pinj] at hf ⊢
  obtain ⟨rfl, rfl⟩ := hf
  exact ⟨s', ⟨rfl, rfl⟩, h⟩
 | w w =>
  cases w with
  | one a =>
   simp only [Zaz, Zag] at hf ⊢
   cases h1 : Z7 s a with
   | none => rw [h1] at hf; simp at hf
   | some q =>
    obtain ⟨b, s1⟩ := q
    rw [h1] at hf
    simp only [oinj, pinj] at hf
    obtain ⟨rfl, rfl⟩ := hf
    obtain ⟨t1, e1, k1⟩ := Zhh h h1
    exact ⟨t1, by rw [e1], k1⟩
  | agg l =>
   simp only [Zaz, Zag] at hf ⊢
   cases h1 : Z6 s l with
   | none => rw [h1] at hf; simp at hf
   | some q =>
    obtain ⟨b, s1⟩ := q
    rw [h1] at hf
    simp only [oinj, pinj] at hf
    obtain ⟨rfl, rfl⟩ := hf
    obtain ⟨t1, e1, k1⟩ := Zhf h h1
    exact ⟨t1, by rw [e1], k1⟩
  | junk =>
   simp only [Zaz, Zag, oinj, pinj] at hf ⊢
   obtain ⟨rfl, rfl⟩ := hf
   exact ⟨s', ⟨rfl, rfl⟩, h⟩
theorem Zf9 : ∀ {l r : List V} {s s' t : St}, s'.mem.stgs = s.mem.stgs → ZT s l = some (r, t) → ∃ t', ZT s' l = some (r, t') ∧ t'.mem.stgs = t.mem.stgs
 | [], _, s, s', t, h, hf => by
  simp only [ZT, oinj, pinj] at hf ⊢
  obtain ⟨rfl, rfl⟩ := hf
  exact ⟨s', ⟨rfl, rfl⟩, h⟩
 | a :: l, _, s, s', t, h, hf => by
  simp only [ZT] at hf ⊢
  split at hf
  ·rename_i b s1 h1
   split at hf
   ·rename_i r s2 h2
    simp only [oinj, pinj] at hf
    obtain ⟨rfl, rfl⟩ := hf
    obtain ⟨t1, e1, k1⟩ := Zql h h1
    obtain ⟨t2, e2, k2⟩ := Zf9 k1 h2
    exact ⟨t2, by rw [e1]; simp only [e2], k2⟩
   ·simp at hf
  ·simp at hf
theorem ZDy {P : Program} {s : St} {m' : Mem} {t : TypeId} {h v : Nat} {i : A} (hst : Zar m' h v = Zar s.mem h v) :
  (Zal P { s with mem := m' } t (.tip h v) i).map (fun r => (r.chk, r.v)) = (Zal P s t (.tip h v) i).map (fun r => (r.chk, r.v)) := by
 unfold Zal
 simp only [hst]
 split
 ·split
  ·split
   ·split
    ·split <;> rfl
    ·rfl
   ·rfl
  ·rfl
 ·split
  ·split <;> rfl
  ·rfl
 ·rfl
theorem Zw5 {P : Program} {s : St} {m' : Mem} {t e : TypeId} {h v : Nat} {i : A} (hu : P.underlying t = some (.slice e)) (hst : Zar m' h v = Zar s.mem h v) :
  (match idxT P { s with mem := m' } t (.tip h v) i with | .leaf (some r) => some (r.chk, r.v) | _ => none) = (match idxT P s t (.tip h v) i with | .leaf (some r) => some (r.chk, r.v) | _ => none) := by
 have hm : ∀ o : Option Res, (match RT.leaf o with | .leaf (some r) => some (r.chk, r.v) | _ => none) = o.map (fun r => (r.chk, r.v)) := by
  intro o; cases o <;> rfl
 have hi : ∀ s : St, idxT P s t (.tip h v) i = .leaf (Zal P s t (.tip h v) i) := fun s => by unfold idxT; rw [hu]
 rw [hi, hi, hm, hm, ZDy hst]
theorem Zw1 {E : Env} (hE : Za1 E) {s : St} {o : Oper} {m' : Mem} {b : Nat} {ns : Bool} {chk : Option Bool} {v : V} (h : Zbp E true s o = some (chk, v)) (hl : ZjR E s o = some (b, ns)) :
  ((∃ l, nth s.mem.boxes b = some l) ∧ (∃ p o', opd1 s p = some (.loc b o')) ∧ (nth m'.boxes b = nth s.mem.boxes b → (ns = true → m'.stgs = s.mem.stgs) → Zbp E true { s with mem := m' } o = some (chk, v))) ∨
   (ns = true ∧ (m'.stgs = s.mem.stgs → Zbp E true { s with mem := m' } o = some (chk, v))) := by
 unfold ZjR at hl
 split at hl
 ·rename_i t p ho
  split at hl
  ·rename_i b0 o0 hp
   simp only [oinj, pinj] at hl; obtain ⟨rfl, rfl⟩ := hl
   have hp' : ∀ m : Mem, opd1 { s with mem := m } p = some (.loc b0 o0) := fun m => by
    have : opd1 { s with mem := m } p = opd1 s p := by unfold opd1; cases p <;> rfl
    rw [this]; exact hp
   unfold Zbp Zab at h ⊢
   rw [ho] at h ⊢
   simp only [Zhv, Zdn, ZfB, Bool.not_false, Bool.and_true, Bool.true_or, evOp, hp, Zp7, ZdH, Bool.or_true] at h
   cases hn : nth s.mem.boxes b0 with
   | none => rw [hn] at h; simp at h
   | some l =>
    refine .inl ⟨⟨l, rfl⟩, ⟨p, o0, hp⟩, fun hm _ => ?_⟩
    rw [hn] at h
    simp only [Zhv, Zdn, ZfB, Bool.not_false, Bool.and_true, Bool.true_or, evOp, hp', Zp7, ZdH, hm, Bool.or_true]
    simp only [Option.map_some] at h ⊢
    split at h
    ·rename_i r hr
     split at hr
     ·rename_i w hw
      simp only [valR, RT.leaf.injEq, oinj] at hr; subst hr
      simp only [oinj, pinj] at h
      obtain ⟨rfl, rfl⟩ := h
      rfl
     ·simp at hr
    ·simp at h
  ·rename_i h0 v0 i0 o0 hp
   simp only [oinj, pinj] at hl; obtain ⟨_, rfl⟩ := hl
   refine .inr ⟨rfl, fun hst => ?_⟩
   have hp' : ∀ m : Mem, opd1 { s with mem := m } p = some (.sp h0 v0 i0 o0) := fun m => by
    have : opd1 { s with mem := m } p = opd1 s p := by unfold opd1; cases p <;> rfl
    rw [this]; exact hp
   have hs : Zar m' h0 v0 = Zar s.mem h0 v0 := by unfold Zar; rw [hst]
   unfold Zbp Zab at h ⊢
   rw [ho] at h ⊢
   simp only [Zhv, Zdn, ZfB, Bool.not_false, Bool.and_true, Bool.true_or, evOp, hp, hp', Zp7, ZdH, hs, Bool.or_true] at h ⊢
   split at h
   ·rename_i r hr
    split at hr
    ·rename_i w hw
     simp only [valR, RT.leaf.injEq, oinj] at hr; subst hr
     rw [← h]
     rfl
    ·simp at hr
   ·simp at h
  ·simp at hl
 ·rename_i t x i ho
  split at hl
  ·rename_i h0 v0 e0 hx hu
   simp only [oinj, pinj] at hl; obtain ⟨_, rfl⟩ := hl
   refine .inr ⟨rfl, fun hst => ?_⟩
   have ho1 : ∀ (y : Operand), opd1 { s with mem := m' } y = opd1 s y := fun y => by unfold opd1; cases y <;> rfl
   have hs : Zar m' h0 v0 = Zar s.mem h0 v0 := by unfold Zar; rw [hst]
   unfold Zbp Zab at h ⊢
   rw [ho] at h ⊢
   simp only [Zhv, Zdn, ZfB, Bool.not_false, Bool.and_true, Bool.true_or, ho1, hx, Bool.or_true] at h ⊢
   cases hi : opd1 s i with
   | none => rw [hi] at h; simp at h
   | some a =>
    rw [hi] at h
    simp only at h ⊢
    exact (Zw5 hu hs).trans h
  ·simp at hl
 ·rename_i c ho
  split at hl
  ·rename_i f hcf
   split at hl
   ·rename_i g hg
    have hos : ∀ (l : List Operand), opds { s with mem := m' } l = opds s l := fun l => by
     induction l with
     | nil => rfl
     | cons x l ih =>
      simp only [opds, ih]
      have : opd { s with mem := m' } x = opd s x := by cases x <;> rfl
      rw [this]
    cases hvs : opds s c.args.toList with
    | none => rw [hvs] at hl; simp [ZjS] at hl
    | some vs =>
     rw [hvs] at hl
     unfold ZjS at hl
     split at hl
     ·rename_i b0 o0 l e
      simp only [oinj] at e
      split at hl
      ·rename_i hall
       simp only [Option.map_some, oinj, pinj] at hl
       obtain ⟨rfl, rfl⟩ := hl
       subst e
       simp only [Bool.and_eq_true, List.all_eq_true, Nat.blt_eq] at hall
       have hcal : ∀ m : Mem, Zaq E { s with mem := m } c = some (.read g, []) := fun m => by
        unfold Zaq; rw [hcf]; simp only [opd1, opd, Option.bind_some, V.one, hg, List.map_nil, Entry.plain]
       obtain ⟨p, ps, hps⟩ : ∃ p ps, c.args.toList = p :: ps := by
        cases hc : c.args.toList with
        | nil => rw [hc] at hvs; simp [opds] at hvs
        | cons p ps => exact ⟨p, ps, rfl⟩
       have hp : opd1 s p = some (.loc b0 o0) := by
        rw [hps] at hvs
        simp only [opds] at hvs
        split at hvs
        ·rename_i v r hv hr
         simp only [oinj, List.cons.injEq] at hvs
         unfold opd1; rw [hv, hvs.1]; rfl
        ·simp at hvs
       have hb : ∃ l, nth s.mem.boxes b0 = some l := ⟨_, by rw [Zk]; exact List.getElem?_eq_getElem (by simpa [Z4] using hall.2)⟩
       refine .inl ⟨hb, ⟨p, o0, hp⟩, fun hm hst => ?_⟩
       have hloc : ZBV g := by
        have := hE f _ hg
        exact this.2.1
       have hs0 : Zaq E s c = some (.read g, []) := hcal s.mem
       unfold Zbp at h ⊢
       rw [ho] at h ⊢
       have hc1 : Zhv E (.call c) = false := by simp [Zhv, hcf, hg]
       have hc2 : ZfB E (.call c) = true := by simp [ZfB, hcf, hg]
       have hc3 : ∀ m : Mem, (opds { s with mem := m } c.args.toList = opds s c.args.toList) → Zdn E { s with mem := m } (.call c) = true := fun m hm => by
        simp only [Zdn, hcf, hcal m, hm, hvs]
       have hc4 : Zdn E s (.call c) = true := hc3 s.mem rfl
       simp only [hc1, hc2, hc4, hc3 m' (hos _), Bool.not_false, Bool.true_and, Bool.true_or] at h ⊢
       unfold Zab at h ⊢
       rw [ho] at h ⊢
       simp only [hcf, hs0, hcal m', hvs, hos] at h ⊢
       cases hgm : g (V.w (.one (.loc b0 o0)) :: l ++ []) s.mem with
       | none => rw [hgm] at h; simp at h
       | some q =>
        have := hloc _ _ m' _ hgm (hst rfl) (fun b o hbo => by
         simp only [List.append_nil, List.mem_cons] at hbo
         rcases hbo with e | e
         ·simp only [V.w.injEq, W.one.injEq, A.loc.injEq] at e
          rw [e.1]; exact hm
         ·have := hall.1 _ e
          simp [ZH9] at this)
        rw [this]
        rw [hgm] at h
        exact h
      ·simp at hl
     ·simp at hl
   ·rename_i g hg
    simp only [oinj, pinj] at hl
    obtain ⟨_, rfl⟩ := hl
    refine .inr ⟨rfl, fun hst => ?_⟩
    have hos : ∀ (l : List Operand), opds { s with mem := m' } l = opds s l := fun l => by
     induction l with
     | nil => rfl
     | cons x l ih =>
      simp only [opds, ih]
      have : opd { s with mem := m' } x = opd s x := by cases x <;> rfl
      rw [this]
    have hcal : ∀ m : Mem, Zaq E { s with mem := m } c = some (.pure g, []) := fun m => by
     unfold Zaq; rw [hcf]; simp only [opd1, opd, Option.bind_some, V.one, hg, List.map_nil, Entry.plain]
    have hs0 : Zaq E s c = some (.pure g, []) := hcal s.mem
    have hc1 : Zhv E (.call c) = false := by simp [Zhv, hcf, hg]
    have hc2 : ZfB E (.call c) = false := by simp [ZfB, hcf, hg]
    have hff : Zbd m' = Zbd s.mem := funext (Zqi hst)
    unfold Zbp at h ⊢
    rw [ho] at h ⊢
    cases hvs : opds s c.args.toList with
    | none =>
     have : Zdn E s (.call c) = false := by simp only [Zdn, hcf, hs0, hvs]
     rw [hc1, hc2, this] at h
     simp at h
    | some vs =>
     have e1 : Zdn E { s with mem := m' } (.call c) = Zdn E s (.call c) := by
      simp only [Zdn, hcf, hcal, hs0, hos, hvs, hff]
     rw [hc1, hc2, e1]
     rw [hc1, hc2] at h
     cases hfz : Zdn E s (.call c) with
     | false => rw [hfz] at h; simp at h
     | true =>
      rw [hfz] at h
      simp only [Bool.not_false, Bool.and_self, Bool.or_true, Bool.true_or] at h ⊢
      unfold Zab at h ⊢
      rw [ho] at h ⊢
      simp only [hcf, hs0, hcal, hvs, hos, List.append_nil] at h ⊢
      cases hz : ZT s vs with
      | none => rw [hz] at h; simp at h
      | some q =>
       obtain ⟨r, t⟩ := q
       obtain ⟨t', e2, _⟩ := Zf9 (s' := { s with mem := m' }) hst hz
       rw [hz] at h
       rw [e2]
       simp only at h ⊢
       cases hg2 : g r with
       | none => rw [hg2] at h; simp at h
       | some q => rw [hg2] at h; exact h
   ·simp at hl
  ·simp at hl
 ·simp at hl
section
variable {E : Env} {chg : Bool} {A : Array Oper} {S : Nat → St} {T : Nat → Ty}
def ZaG (listed : Array Bool) (i : Nat) : Prop := listed.getD i false = true
structure Inv (A : Array Oper) (S : Nat → St) (T : Nat → Ty) (x0 : Ctx) (w0 : World) (x : Ctx) (listed : Array Bool) (a : Act) (w : World) : Prop where
 size : listed.size = A.size
 closed : ∀ j oj, A[j]? = some oj → ZaG listed j → ∀ e ∈ oj.after, Region.binds .any e = true → ZaG listed e.on
 fr : a.tmps.size = (S 0).slots.length
 d : a.defers = []
 r : ∃ x' kc, kc ≤ A.size ∧ (∀ c, c < A.size → (T c).isChain → (c < kc ↔ ZaG listed c)) ∧ MemOk x' (S kc).mem w ∧ Ext x0 x' ∧ ExtM x x' ∧ Step x0 w0 w ∧
  ∀ t k v, k ≤ A.size → (∀ i oi, A[i]? = some oi → oi.dst = some t → (i < k ↔ ZaG listed i)) → nth (S k).slots t = some v → RV x' v (a.tmps.getD t undef)
theorem Zvv {s s' : St} {ty : Ty} {o : Oper} (h : Zgl E chg A.toList s ty o s') : s'.slots.length = s.slots.length := by
 obtain ⟨s1, w, hg, h⟩ := h
 have := (Zbr hg).1
 cases ty with
 | skip => obtain ⟨_, rfl⟩ := h; rw [Zbx, this]
 | free v => obtain ⟨_, _, _, _, rfl⟩ := h; rw [Zbx, this]
 | read v rb => obtain ⟨_, _, _, _, _, _, rfl⟩ := h; rw [Zbx, this]
 | chain r tb => obtain ⟨_, _, _, _, _, rfl⟩ := h; rw [putRes, Zbx]; exact this
theorem Zgt {s s' : St} {ty : Ty} {o : Oper} (h : Zgl E chg A.toList s ty o s') (hc : ¬ ty.isChain) : s'.mem = s.mem := by
 obtain ⟨s1, w, hg, h⟩ := h
 have := (Zbr hg).2
 cases ty with
 | skip => obtain ⟨_, rfl⟩ := h; rw [Zec, this]
 | free v => obtain ⟨_, _, _, _, rfl⟩ := h; rw [Zec, this]
 | read v rb => obtain ⟨_, _, _, _, _, _, rfl⟩ := h; rw [Zec, this]
 | chain r tb => exact absurd trivial hc
theorem Zdv {s : St} {d : Option Nat} {v : V} {t : Nat} (h : d ≠ some t) : nth (put s d v).slots t = nth s.slots t := by
 cases d with
 | none => rfl
 | some d => exact Zt (fun e => h (by rw [e]))
theorem ZqL {s s' : St} {ty : Ty} {o : Oper} (h : Zgl E chg A.toList s ty o s') {t : Nat} (ht : o.dst ≠ some t) {x : Ctx} {u : Value} (hu : ∀ v, nth s.slots t = some v → RV x v u) : ∀ v, nth s'.slots t = some v → RV x v u := by
 obtain ⟨s1, w, hg, h⟩ := h
 have h1 := Zj7 hg hu
 cases ty with
 | skip => obtain ⟨_, rfl⟩ := h; intro v hv; rw [Zdv ht] at hv; exact h1 v hv
 | free v => obtain ⟨_, _, _, _, rfl⟩ := h; intro v hv; rw [Zdv ht] at hv; exact h1 v hv
 | read v rb => obtain ⟨_, _, _, _, _, _, rfl⟩ := h; intro v hv; rw [Zdv ht] at hv; exact h1 v hv
 | chain r tb => obtain ⟨_, _, _, _, _, rfl⟩ := h; intro v hv; rw [putRes, Zdv ht] at hv; exact h1 v hv
variable (hst : ∀ k o, A[k]? = some o → Zgl E chg A.toList (S k) (T k) o (S (k + 1)))
include hst
theorem lens : ∀ k, k ≤ A.size → (S k).slots.length = (S 0).slots.length
 | 0, _ => rfl
 | k + 1, h => by
  obtain ⟨o, ho⟩ : ∃ o, A[k]? = some o := ⟨_, Array.getElem?_eq_getElem (by omega)⟩
  rw [Zvv (hst k o ho), lens k (by omega)]
theorem ZpV {k k' : Nat} (hk : k ≤ k') (hk' : k' ≤ A.size) (h : ∀ c, k ≤ c → c < k' → ¬ (T c).isChain) : (S k').mem = (S k).mem := by
 induction k' with
 | zero =>
  have : k = 0 := by omega
  subst this; rfl
 | succ n ih =>
  by_cases e : k = n + 1
  ·subst e; rfl
  ·obtain ⟨o, ho⟩ : ∃ o, A[n]? = some o := ⟨_, Array.getElem?_eq_getElem (by omega)⟩
   rw [Zgt (hst n o ho) (h n (by omega) (by omega)), ih (by omega) (by omega) (fun c h1 h2 => h c h1 (by omega))]
theorem ZEV (hE : Za1 E) {b k k' : Nat} {ns : Bool} (hk : k ≤ k') (hk' : k' ≤ A.size) (hb : b < (S k).mem.boxes.length) (h : ∀ c, k ≤ c → c < k' → (T c).isChain → Zck (T c).touch (some (b, ns)) = true) :
  b < (S k').mem.boxes.length ∧ nth (S k').mem.boxes b = nth (S k).mem.boxes b ∧ (ns = true → (S k').mem.stgs = (S k).mem.stgs) := by
 induction k' with
 | zero =>
  have : k = 0 := by omega
  subst this; exact ⟨hb, rfl, fun _ => rfl⟩
 | succ n ih =>
  by_cases e : k = n + 1
  ·subst e; exact ⟨hb, rfl, fun _ => rfl⟩
  ·obtain ⟨o, ho⟩ : ∃ o, A[n]? = some o := ⟨_, Array.getElem?_eq_getElem (by omega)⟩
   obtain ⟨h1, h2, h3⟩ := ih (by omega) (by omega) (fun c h1 h2 => h c h1 (by omega))
   rcases Classical.em (T n).isChain with hc | hc
   ·have ha := h n (by omega) (by omega) hc
    obtain ⟨s1, w, hg, hty⟩ := hst n o ho
    cases hT : T n with
    | chain r tb =>
     rw [hT] at hty ha
     obtain ⟨_, _, htb, hres, _, hS⟩ := hty
     have hm1 : (mask s1 o).mem = (S n).mem := (Zbr hg).2
     cases tb with
     | none => simp [Ty.touch, Zck] at ha
     | some b' =>
      obtain ⟨b', st⟩ := b'
      obtain ⟨q1, q3, q2⟩ := ZkG hE hres htb.symm
      rw [hm1] at q1 q2 q3
      simp only [Ty.touch, Zck, Bool.and_eq_true, Bool.not_eq_true', Bool.and_eq_false_iff] at ha
      have hne : b ≠ b' := by
       intro e; subst e; simp at ha
      have hSm : (S (n + 1)).mem = r.m := by rw [hS, putRes, Zec]
      rw [hSm]
      exact ⟨by omega, by rw [q2 b hne h1, h2], fun hn => by rw [q3 (ha.2.resolve_right (by rw [hn]; simp)), h3 hn]⟩
    | skip => rw [hT] at hc; exact hc.elim
    | free _ => rw [hT] at hc; exact hc.elim
    | read _ _ => rw [hT] at hc; exact hc.elim
   ·rw [Zgt (hst n o ho) hc]; exact ⟨h1, h2, h3⟩
theorem ZD3 (hE : Za1 E) {b k k' : Nat} (hk : k ≤ k') (hk' : k' ≤ A.size) (h : ∀ c, k ≤ c → c < k' → (T c).isChain → Zck (T c).touch (some (b, true)) = true) :
  (S k').mem.stgs = (S k).mem.stgs := by
 induction k' with
 | zero =>
  have : k = 0 := by omega
  subst this; rfl
 | succ n ih =>
  by_cases e : k = n + 1
  ·subst e; rfl
  ·obtain ⟨o, ho⟩ : ∃ o, A[n]? = some o := ⟨_, Array.getElem?_eq_getElem (by omega)⟩
   have h3 := ih (by omega) (by omega) (fun c h1 h2 => h c h1 (by omega))
   rcases Classical.em (T n).isChain with hc | hc
   ·have ha := h n (by omega) (by omega) hc
    obtain ⟨s1, w, hg, hty⟩ := hst n o ho
    cases hT : T n with
    | chain r tb =>
     rw [hT] at hty ha
     obtain ⟨_, _, htb, hres, _, hS⟩ := hty
     have hm1 : (mask s1 o).mem = (S n).mem := (Zbr hg).2
     cases tb with
     | none => simp [Ty.touch, Zck] at ha
     | some b' =>
      obtain ⟨b', st⟩ := b'
      obtain ⟨q1, q3, q2⟩ := ZkG hE hres htb.symm
      rw [hm1] at q1 q2 q3
      simp only [Ty.touch, Zck, Bool.and_eq_true, Bool.not_eq_true', Bool.and_eq_false_iff] at ha
      have hSm : (S (n + 1)).mem = r.m := by rw [hS, putRes, Zec]
      rw [hSm, q3 (ha.2.resolve_right (by simp)), h3]
    | skip => rw [hT] at hc; exact hc.elim
    | free _ => rw [hT] at hc; exact hc.elim
    | read _ _ => rw [hT] at hc; exact hc.elim
   ·rw [Zgt (hst n o ho) hc]; exact h3
theorem Ztw {t k k' : Nat} (hk : k ≤ k') (hk' : k' ≤ A.size) (h : ∀ i oi, A[i]? = some oi → oi.dst = some t → ¬ (k ≤ i ∧ i < k')) {x : Ctx} {u : Value} (hu : ∀ v, nth (S k).slots t = some v → RV x v u) :
  ∀ v, nth (S k').slots t = some v → RV x v u := by
 induction k' with
 | zero =>
  have : k = 0 := by omega
  subst this; exact hu
 | succ n ih =>
  by_cases e : k = n + 1
  ·subst e; exact hu
  ·obtain ⟨o, ho⟩ : ∃ o, A[n]? = some o := ⟨_, Array.getElem?_eq_getElem (by omega)⟩
   exact ZqL (hst n o ho) (fun ht => h n o ho ht ⟨by omega, by omega⟩) (ih (by omega) (by omega) (fun i oi h1 h2 h3 => h i oi h1 h2 ⟨h3.1, by omega⟩))
variable (hE : Za1 E) (hlex : lexL A.toList = true) (hch : ∀ k k', k < A.size → k' < k → (T k').bound (T k) → Waits A.toList k' k)
include hlex hch
omit hst hch in
theorem ZBw {i j : Nat} {oi oj : Oper} (hi : A[i]? = some oi) (hj : A[j]? = some oj) (hlt : i < j) (h : oi.apart A oj = false) : ∃ e ∈ oj.after, Region.binds .any e = true ∧ e.on = i := by
 rcases Classical.em (∃ e ∈ oj.after, Region.binds .any e = true ∧ e.on = i) with h1 | h1
 ·exact h1
 ·have := (ZjU hlex i oi hi).2 j oj hlt hj (fun e he hb hon => h1 ⟨e, he, hb, hon⟩)
  rw [h] at this; simp at this
omit hst hch hlex in
theorem Zsy {oi oj : Oper} {t : Nat} (h1 : oi.dst = some t) (h2 : t ∈ oj.looksAt A) : oi.apart A oj = false := by
 rw [Bool.eq_false_iff]; intro h
 exact (Oper.apart_spec h).1 t h1 h2
omit hst hch hlex in
theorem Zsx {oi oj : Oper} {t : Nat} (h1 : oj.dst = some t) (h2 : t ∈ oi.looksAt A) : oi.apart A oj = false := by
 rw [Bool.eq_false_iff]; intro h
 exact (Oper.apart_spec h).2.2 t h1 h2
omit hst hch hlex in
theorem ZjB {oi oj : Oper} {t : Nat} (h1 : oi.dst = some t) (h2 : oj.dst = some t) : oi.apart A oj = false := by
 rw [Bool.eq_false_iff]; intro h
 exact (Oper.apart_spec h).2.1 t h1 h2
omit hst hch hlex in
theorem Zg4 {listed : Array Bool} (hcl : ∀ j oj, A[j]? = some oj → ZaG listed j → ∀ e ∈ oj.after, Region.binds .any e = true → ZaG listed e.on) {i j : Nat} (h : Waits A.toList i j)
  (hj : ∀ oj, A[j]? = some oj → ∀ e ∈ oj.after, Region.binds .any e = true → ZaG listed e.on) : ZaG listed i := by
 induction h with
 | one j o e h1 he hb hi => exact hi ▸ hj o (by rw [Zk] at h1; simpa using h1) e he hb
 | more j o e h1 he hb hi ih =>
  refine ih fun oj hoj e' he' hb' => ?_
  exact hcl e.on oj hoj (hj o (by rw [Zk] at h1; simpa using h1) e he hb) e' he' hb'
include hE
theorem ZDs {x0 x : Ctx} {w0 : World} {Q : Exit → Act → World → Prop} {listed : Array Bool} {a : Act} {w : World} (inv : Inv A S T x0 w0 x listed a w) {j : Nat} (hready : j ∈ Region.ready .any A listed)
  {K : Act → World → Prop} (hK : ∀ a' w', Inv A S T x0 w0 x (listed.setIfInBounds j true) a' w' → K a' w') : wpOp E.P A Q j K a w := by
 obtain ⟨hun, oj, hj, hall⟩ := mem_ready.1 hready
 have hjlt : j < A.size := (Array.getElem?_eq_some_iff.1 hj).1
 have hunl : ¬ ZaG listed j := by
  unfold ZaG
  rw [Array.getD_eq_getD_getElem?, Array.getElem?_eq_getElem (by rw [inv.size]; exact hjlt)] at hun ⊢
  simp only [Option.getD_some] at hun ⊢
  rw [hun]; simp
 obtain ⟨x', kc, hkc, hkc2, hm, he, hxx, hstp, hslot⟩ := inv.r
 have hwr : ∀ t, t ∈ oj.looksAt A ∨ oj.dst = some t → ∀ i oi, A[i]? = some oi → oi.dst = some t → i ≠ j → (i < j ↔ ZaG listed i) := by
  intro t ht i oi hi hdi hne
  constructor
  ·intro hlt
   obtain ⟨e, he, hb, hon⟩ := ZBw hlex hi hj hlt (by rcases ht with ht | ht; exact Zsy hdi ht; exact ZjB hdi ht)
   exact hon ▸ hall e he hb
  ·intro hl
   rcases Nat.lt_or_ge i j with h | h
   ·exact h
   ·exfalso
    obtain ⟨e, he, hb, hon⟩ := ZBw hlex hj hi (by omega) (by rcases ht with ht | ht; exact Zsx hdi ht; exact ZjB ht hdi)
    exact hunl (hon ▸ inv.closed i oi hi hl e he hb)
 have hlook : ∀ t, t ∈ oj.looksAt A → ∀ v, nth (S j).slots t = some v → RV x' v (a.tmps.getD t undef) := by
  intro t ht v hv
  refine hslot t j v (by omega) (fun i oi hi hdi => ?_) hv
  by_cases hij : i = j
  ·subst hij; exact ⟨fun h => by omega, fun h => absurd h hunl⟩
  ·exact hwr t (.inl ht) i oi hi hdi hij
 obtain ⟨s1, wt, hg, hty⟩ := hst j oj hj
 have hlooks : ∀ t, t ∈ ZnJ oj → t ∈ oj.looksAt A := by
  intro t ht
  unfold Oper.looksAt
  exact List.mem_append_left _ ht
 have hAj : nth A.toList j = some oj := by rw [Zk]; simpa using hj
 have hwanted : Region.wanted oj (yielded A a.tmps) = wt := by
  have := ZnP (a := a) (x := x') hg (fun i want oi d hgd hi hd v hv => by
   refine hlook d ?_ v hv
   unfold Oper.looksAt
   refine List.mem_append_right _ ?_
   rw [Zk] at hi
   simp only [hgd]
   have hi' : A[i]? = some oi := by simpa using hi
   simp [hi', hd])
  simpa using this
 have hlen : (S j).slots.length = a.tmps.size := by rw [lens hst j (by omega), inv.fr]
 have hlen1 : s1.slots.length = a.tmps.size := by rw [(Zbr hg).1, hlen]
 have hrf : RF x' (mask s1 oj).slots a.tmps := ZGt hlen1 fun t ht => Zj7 hg (hlook t (hlooks t ht))
 have hl' : ∀ i, i < A.size → (ZaG (listed.setIfInBounds j true) i ↔ i = j ∨ ZaG listed i) := by
  intro i hi
  unfold ZaG
  by_cases e : j = i
  ·subst e
   simp [Array.getD_eq_getD_getElem?, inv.size, hi]
  ·rw [getD_set_ne false e]
   exact ⟨fun h => .inr h, fun h => h.elim (fun h => absurd h.symm e) id⟩
 have hclosed' : ∀ i oi, A[i]? = some oi → ZaG (listed.setIfInBounds j true) i → ∀ e ∈ oi.after, Region.binds .any e = true → ZaG (listed.setIfInBounds j true) e.on := by
  intro i oi hi hl e he' hb
  have hon : ZaG listed e.on := by
   rcases (hl' i (Array.getElem?_eq_some_iff.1 hi).1).1 hl with rfl | hl
   ·have : oi = oj := by rw [hj] at hi; simpa using hi.symm
    subst this
    exact hall e he' hb
   ·exact inv.closed i oi hi hl e he' hb
  exact getD_set_true hon
 have fin : ∀ (x'' : Ctx) (u : Value) (v0 : V) (w' : World) (kc' : Nat), (∀ k, k = j + 1 → nth (S k).slots = nth (S (j + 1)).slots) → kc' ≤ A.size →
   (∀ c, c < A.size → (T c).isChain → (c < kc' ↔ ZaG (listed.setIfInBounds j true) c)) → MemOk x'' (S kc').mem w' → Ext x' x'' → Step x' w w' →
   (∀ t, oj.dst = some t → ∀ v, nth (S (j + 1)).slots t = some v → RV x'' v u) → Inv A S T x0 w0 x (listed.setIfInBounds j true) (a.put oj.dst u) w' := by
  intro x'' u v0 w' kc' _ hkc' hkc2' hm' hx'' hst'' hres
  refine ⟨by simp [inv.size], hclosed', ?_, by rw [Zmd]; exact inv.d, x'', kc', hkc', hkc2', hm', he.trans hx'', hxx.trans hx''.extM, hstp.trans hst'' he.own, ?_⟩
  ·have : (a.put oj.dst u).tmps.size = a.tmps.size := by cases oj.dst <;> simp [Act.put]
   rw [this]; exact inv.fr
  ·intro t k v hk hwt hv
   by_cases ht : oj.dst = some t
   ·-- j's own slot
    have hjk : j < k := (hwt j oj hj ht).2 ((hl' j hjlt).2 (.inl rfl))
    have hval : (a.put oj.dst u).tmps.getD t undef = u := by
     have htl : t < a.tmps.size := by
      have := ZP hv
      rw [lens hst k hk, ← inv.fr] at this; exact this
     rw [ht]; simp [Act.put, Array.getD_eq_getD_getElem?, htl]
    rw [hval]
    refine Ztw hst (k := j + 1) (k' := k) (by omega) hk (fun i oi hi hdi hb => ?_) (hres t ht) v hv
    have h1 := (hwt i oi hi hdi).1 hb.2
    rcases (hl' i (Array.getElem?_eq_some_iff.1 hi).1).1 h1 with rfl | h1
    ·omega
    ·have := (hwr t (.inr ht) i oi hi hdi (by omega)).2 h1
     omega
   ·have hval : (a.put oj.dst u).tmps.getD t undef = a.tmps.getD t undef := by
     cases hd : oj.dst with
     | none => rfl
     | some d =>
      have : d ≠ t := fun e => ht (by rw [hd, e])
      simp [Act.put, Array.getD_eq_getD_getElem?, this]
    rw [hval]
    refine (hslot t k v hk (fun i oi hi hdi => ?_) hv).mono hx''
    have hne : i ≠ j := fun e => by
     subst e
     have : oi = oj := by rw [hj] at hi; simpa using hi.symm
     subst this; exact ht hdi
    rw [hwt i oi hi hdi, hl' i (Array.getElem?_eq_some_iff.1 hi).1]
    exact ⟨fun h => h.elim (fun h => absurd h hne) id, .inr⟩
 have hkcN : ¬ (T j).isChain → ∀ c, c < A.size → (T c).isChain → (c < kc ↔ ZaG (listed.setIfInBounds j true) c) := by
  intro hnc c hc hcc
  have hne : c ≠ j := fun e => hnc (e ▸ hcc)
  rw [hkc2 c hc hcc, hl' c hc]
  exact ⟨.inr, fun h => h.elim (fun h => absurd h hne) id⟩
 have hs1len : ∀ t v, nth (put s1 (some t) v).slots t = some v ∨ nth (put s1 (some t) v).slots t = none := by
  intro t v
  simp only [put]
  by_cases h : t < s1.slots.length
  ·obtain ⟨q, hq⟩ := Zby h
   exact .inl (Zv hq)
  ·refine .inr ?_
   rw [Zk, Zz, List.getElem?_eq_none (by simp; omega)]
 have hdstv : ∀ (s2 : St) (v0 : V), s2.slots = s1.slots → ∀ t, oj.dst = some t → ∀ v, nth (put s2 oj.dst v0).slots t = some v → v = v0 := by
  intro s2 v0 hs2 t ht v hv
  rw [ht] at hv
  simp only [put] at hv
  rcases Zc5 hv with ⟨_, e, _⟩ | ⟨h, _⟩
  ·exact e
  ·exact absurd rfl h
 have hbefore : ∀ c, c < A.size → (T c).isChain → (T c).bound (T j) → (T j).bound (T c) → (c < j ↔ ZaG listed c) := by
  intro c hc' hcc hb1 hb2
  constructor
  ·intro hlt
   refine Zg4 inv.closed (hch j c hjlt hlt hb1) fun o ho e he' hb => ?_
   have : o = oj := by rw [hj] at ho; simpa using ho.symm
   subst this; exact hall e he' hb
  ·intro hl
   rcases Nat.lt_or_ge c j with h | h
   ·exact h
   ·exfalso
    have hne : c ≠ j := fun e => by subst e; exact hunl hl
    exact hunl (Zg4 inv.closed (hch c j hc' (by omega) hb2) fun o ho e he' hb => inv.closed c o ho hl e he' hb)
 have hmemj : (∀ c, c < A.size → (T c).isChain → (c < j ↔ ZaG listed c)) → (mask s1 oj).mem = (S kc).mem := by
  intro hbef
  have e1 : (mask s1 oj).mem = (S j).mem := (Zbr hg).2
  rw [e1]
  rcases Nat.le_total j kc with h | h
  ·refine (ZpV hst h hkc (fun c h1 h2 hcc => ?_)).symm
   have := (hbef c (by omega) hcc).2 ((hkc2 c (by omega) hcc).1 h2)
   omega
  ·refine ZpV hst h (by omega) (fun c h1 h2 hcc => ?_)
   have := (hkc2 c (by omega) hcc).2 ((hbef c (by omega) hcc).1 h2)
   omega
 unfold wpOp
 simp only [hj]
 cases hT : T j with
 | skip =>
  rw [hT] at hty
  obtain ⟨rfl, hS⟩ := hty
  rw [hwanted]
  refine hK _ _ (fin x' undef Zg5 w kc (fun _ _ => by simp_all) hkc (hkcN (by rw [hT]; exact fun h => h)) hm (Ext.refl x') (Step.refl x' w) (fun t ht v hv => ?_))
  rw [hS] at hv
  have := hdstv s1 Zg5 rfl t ht v hv
  subst this
  exact ⟨[], rfl, trivial⟩
 | free v0 =>
  rw [hT] at hty
  obtain ⟨rfl, chk, hfr, hc, hS⟩ := hty
  rw [hwanted]
  refine .inl ?_
  have hmc : chg = false → (mask s1 oj).mem = (S kc).mem := by
   intro hcg
   have hno : ∀ c, ¬ (T c).isChain ∨ A.size ≤ c := by
    intro c
    by_cases hc : c < A.size
    ·left
     intro hcc
     obtain ⟨o, ho⟩ : ∃ o, A[c]? = some o := ⟨_, Array.getElem?_eq_getElem hc⟩
     obtain ⟨_, _, _, h⟩ := hst c o ho
     cases hTc : T c with
     | skip => rw [hTc] at hcc; exact hcc
     | free _ => rw [hTc] at hcc; exact hcc
     | read _ _ => rw [hTc] at hcc; exact hcc
     | chain r tb => rw [hTc] at h; have := h.2.1; rw [hcg] at this; simp at this
    ·right; omega
   have e1 : (mask s1 oj).mem = (S j).mem := (Zbr hg).2
   have e2 : (S j).mem = (S kc).mem := by
    rcases Nat.le_total j kc with h | h
    ·exact (ZpV hst h hkc (fun c _ hc => (hno c).resolve_right (by omega))).symm
    ·exact ZpV hst h (by omega) (fun c _ hc => (hno c).resolve_right (by omega))
   rw [e1, e2]
  have hmr : MemR x' (Zvc chg (mask s1 oj)).mem w := by
   cases hcg : chg with
   | true => exact hm.toR.bare
   | false =>
    show MemR x' (mask s1 oj).mem w
    rw [hmc hcg]; exact hm.toR
  have hrf' : RF x' (Zvc chg (mask s1 oj)).slots a.tmps := by cases chg <;> exact hrf
  refine Zll hE hrf' hmr hm (fun hrd => by cases hcg : chg <;> rw [hcg] at hrd <;> simp at hrd; exact hmc hcg) hfr hc fun u w' x'' hv hm' hx'' hw' => hK _ _ ?_
  refine fin x'' u v0 w' kc (fun _ h => by rw [h]) hkc (hkcN (by rw [hT]; exact fun h => h)) hm' hx'' (hw'.step hm) (fun t ht v hv' => ?_)
  rw [hS] at hv'
  have := hdstv s1 v0 rfl t ht v hv'
  subst this; exact hv
 | read v0 rb =>
  rw [hT] at hty
  obtain ⟨rfl, hcg, hrb, chk, hfr, hc, hS⟩ := hty
  rw [hwanted]
  refine .inl ?_
  have hrj : (T j).isRead := by rw [hT]; trivial
  have hloc : (T j).loc = rb := by rw [hT]; rfl
  have e1 : (mask s1 oj).mem = (S j).mem := (Zbr hg).2
  have hfr' : Zbp E true { mask s1 oj with mem := (S kc).mem } oj = some (chk, v0) := by
   cases hrb' : rb with
   | none =>
    have hmem := hmemj (fun c hc' hcc => hbefore c hc' hcc (.inr (.inr ⟨hrj, hcc, by rw [hloc, hrb']; cases (T c).touch <;> rfl⟩)) (.inr (.inl ⟨hcc, hrj, by rw [hloc, hrb']; cases (T c).touch <;> rfl⟩)))
    rw [← hmem]; exact hfr
   | some b =>
    obtain ⟨b, ns⟩ := b
    rw [hrb'] at hrb
    have hap : ∀ c, c < A.size → (T c).isChain → ¬ (c < j ↔ ZaG listed c) → Zck (T c).touch (some (b, ns)) = true := by
     intro c hc' hcc hn
     cases hap : Zck (T c).touch (some (b, ns)) with
     | true => rfl
     | false => exact absurd (hbefore c hc' hcc (.inr (.inr ⟨hrj, hcc, by rw [hloc, hrb']; exact hap⟩)) (.inr (.inl ⟨hcc, hrj, by rw [hloc, hrb']; exact hap⟩))) hn
    rcases Zw1 (m' := (S kc).mem) hE hfr hrb.symm with ⟨⟨l0, hl0⟩, ⟨p, o', hp⟩, hfin⟩ | ⟨rfl, hfin⟩
    ·refine (fun (q : _ ∧ _) => hfin q.1 q.2) ?_
     have hbj : b < (S j).mem.boxes.length := by rw [← e1]; exact ZP hl0
     have hbk : b < (S kc).mem.boxes.length := by
      have hv := Zad hrf hp
      rw [← hm.ml]
      generalize a.eval p = u at hv
      cases hv with
      | loc _ _ _ q hq => exact ZP hq
     rw [e1]
     rcases Nat.le_total j kc with h | h
     ·refine (ZEV hst hE h hkc hbj (fun c h1 h2 hcc => hap c (by omega) hcc fun hi => ?_)).2
      have := hi.2 ((hkc2 c (by omega) hcc).1 h2)
      omega
     ·refine (fun q => ⟨q.1.symm, fun hn => (q.2 hn).symm⟩) (ZEV hst hE h (by omega) hbk (fun c h1 h2 hcc => hap c (by omega) hcc fun hi => ?_)).2
      have := (hkc2 c (by omega) hcc).2 (hi.1 h2)
      omega
    ·refine hfin ?_
     rw [e1]
     rcases Nat.le_total j kc with h | h
     ·refine ZD3 hst hE h hkc (fun c h1 h2 hcc => hap c (by omega) hcc fun hi => ?_)
      have := hi.2 ((hkc2 c (by omega) hcc).1 h2)
      omega
     ·refine (ZD3 hst hE h (by omega) (fun c h1 h2 hcc => hap c (by omega) hcc fun hi => ?_)).symm
      have := (hkc2 c (by omega) hcc).2 (hi.1 h2)
      omega
  refine Zll hE (s := { mask s1 oj with mem := (S kc).mem }) hrf hm.toR hm (fun _ => rfl) hfr' hc fun u w' x'' hv hm' hx'' hw' => hK _ _ ?_
  refine fin x'' u v0 w' kc (fun _ h => by rw [h]) hkc (hkcN (by rw [hT]; exact fun h => h)) hm' hx'' (hw'.step hm) (fun t ht v hv' => ?_)
  rw [hS] at hv'
  have := hdstv s1 v0 rfl t ht v hv'
  subst this; exact hv
 | chain r tb =>
  rw [hT] at hty
  obtain ⟨rfl, hcg, htb, hres, hc, hS⟩ := hty
  rw [hwanted]
  refine .inl ?_
  have hcj : (T j).isChain := by rw [hT]; trivial
  have hbef := fun c hc' hcc => hbefore c hc' hcc (.inl ⟨hcj, hcc⟩) (.inl ⟨hcc, hcj⟩)
  have hmem := hmemj hbef
  refine ZkL hE hrf inv.d (by rw [hmem]; exact hm) hres hc fun v w' x'' hv hm' hx'' hst'' => hK _ _ ?_
  have hSm : (S (j + 1)).mem = r.m := by rw [hS, putRes, Zec]
  refine fin x'' v r.v w' (j + 1) (fun _ h => by rw [h]) (by omega) (fun c hc' hcc => ?_) (by rw [hSm]; exact hm') hx'' hst'' (fun t ht v' hv' => ?_)
  ·rw [hl' c hc', ← hbef c hc' hcc]; omega
  ·rw [hS] at hv'
   have := hdstv { s1 with mem := r.m, bd := r.bd, sd := r.sd } r.v rfl t ht v' hv'
   subst this; exact hv
def Zfr (A : Array Oper) (listed : Array Bool) : Nat := ((List.range A.size).filter fun i => !listed.getD i false).length
omit hst hlex hch hE in
theorem Zfq {listed : Array Bool} {j : Nat} (hs : listed.size = A.size) (hj : j < A.size) (h : listed.getD j false = false) : Zfr A (listed.setIfInBounds j true) < Zfr A listed := by
 unfold Zfr
 have key : ∀ l : List Nat, l.Nodup → j ∈ l → (l.filter fun i => !(listed.setIfInBounds j true).getD i false).length < (l.filter fun i => !listed.getD i false).length ∧
   True := by
  intro l
  induction l with
  | nil => intro _ h; simp at h
  | cons i l ih =>
   intro hnd hm
   refine ⟨?_, trivial⟩
   rw [List.nodup_cons] at hnd
   by_cases e : j = i
   ·subst e
    have h1 : (listed.setIfInBounds j true).getD j false = true := by simp [Array.getD_eq_getD_getElem?, hs, hj]
    have h2 : (l.filter fun i => !(listed.setIfInBounds j true).getD i false) = (l.filter fun i => !listed.getD i false) := by
     apply List.filter_congr
     intro i hi
     rw [getD_set_ne false (fun e => by subst e; exact hnd.1 hi)]
    rw [List.filter_cons_of_neg (by simp [h1]), List.filter_cons_of_pos (by simp [h]), h2]
    simp
   ·have hm' : j ∈ l := by simpa [e] using hm
    have := (ih hnd.2 hm').1
    have e1 : (listed.setIfInBounds j true).getD i false = listed.getD i false := getD_set_ne false e
    by_cases hb : listed.getD i false = true
    ·rw [List.filter_cons_of_neg (by rw [e1, hb]; simp), List.filter_cons_of_neg (by rw [hb]; simp)]; exact this
    ·rw [List.filter_cons_of_pos (by rw [e1]; simpa using hb), List.filter_cons_of_pos (by simpa using hb)]
     simpa using this
 exact (key _ List.nodup_range (by simpa using hj)).1
theorem ZGI {x0 x : Ctx} {w0 : World} {Q : Exit → Act → World → Prop} (hQ : ∀ x' a w, RelH x0 w0 x' (S A.size) a w → ExtM x x' → Q .normal a w) : ∀ (fuel : Nat) (listed : Array Bool) (a : Act) (w : World),
  Inv A S T x0 w0 x listed a w → Zfr A listed ≤ fuel → wpAny E.P .any A Q fuel listed a w := by
 have all : ∀ listed a w, Inv A S T x0 w0 x listed a w → Region.ready .any A listed = [] → Q .normal a w := by
  intro listed a w inv hr
  have hall : ∀ j, j < A.size → ZaG listed j := by
   intro j
   induction j using Nat.strongRecOn with
   | _ j ih =>
    intro hj
    rcases Classical.em (ZaG listed j) with h | h
    ·exact h
    ·exfalso
     obtain ⟨oj, hoj⟩ : ∃ o, A[j]? = some o := ⟨_, Array.getElem?_eq_getElem hj⟩
     have : j ∈ Region.ready .any A listed := by
      refine mem_ready.2 ⟨?_, oj, hoj, fun e he hb => ih e.on ((ZjU hlex j oj hoj).1 e he hb) ?_⟩
      ·unfold ZaG at h
       rw [Array.getD_eq_getD_getElem?, Array.getElem?_eq_getElem (by rw [inv.size]; exact hj)] at h ⊢
       simp only [Option.getD_some] at h ⊢
       simpa using h
      ·have := (ZjU hlex j oj hoj).1 e he hb; omega
     rw [hr] at this; simp at this
  obtain ⟨x', kc, hkc, hkc2, hm, he, hxx, hstp, hslot⟩ := inv.r
  have hm' : MemOk x' (S A.size).mem w := by
   rw [ZpV hst hkc (Nat.le_refl _) (fun c h1 h2 hcc => by have := (hkc2 c h2 hcc).2 (hall c h2); omega)]; exact hm
  refine hQ x' a w ⟨⟨⟨by rw [lens hst A.size (Nat.le_refl _), inv.fr], fun i v hv => ?_⟩, hm', inv.d⟩, he, hstp⟩ hxx
  exact hslot i A.size v (Nat.le_refl _) (fun i' oi hi _ => ⟨fun h => hall i' h, fun _ => (Array.getElem?_eq_some_iff.1 hi).1⟩) hv
 intro fuel
 induction fuel with
 | zero =>
  intro listed a w inv hf
  have hr : Region.ready .any A listed = [] := by
   cases hr : Region.ready .any A listed with
   | nil => rfl
   | cons j l =>
    exfalso
    have hj : j ∈ Region.ready .any A listed := by rw [hr]; simp
    obtain ⟨hun, oj, hoj, _⟩ := mem_ready.1 hj
    have hlt := (Array.getElem?_eq_some_iff.1 hoj).1
    have := Zfq (A := A) inv.size hlt (by
     rw [Array.getD_eq_getD_getElem?, Array.getElem?_eq_getElem (by rw [inv.size]; exact hlt)] at hun ⊢
     simpa using hun)
    omega
  exact ⟨hr, all listed a w inv hr⟩
 | succ fuel ih =>
  intro listed a w inv hf
  refine ⟨fun hr => all listed a w inv hr, fun j hj => ?_⟩
  obtain ⟨hun, oj, hoj, _⟩ := mem_ready.1 hj
  have hlt := (Array.getElem?_eq_some_iff.1 hoj).1
  have := Zfq (A := A) inv.size hlt (by
   rw [Array.getD_eq_getD_getElem?, Array.getElem?_eq_getElem (by rw [inv.size]; exact hlt)] at hun ⊢
   simpa using hun)
  exact ZDs hst hE hlex hch inv hj fun a' w' inv' => ih _ a' w' inv' (by omega)
end
theorem ZDJ {E : Env} (hE : Za1 E) {x0 x : Ctx} {w0 w : World} {s : St} {a : Act} {A : Array Oper} {id : Nat} {chg : Bool} {Q : Exit → Act → World → Prop} (hP : E.P.follows .mixedOrders = true) (hlex : lexL A.toList = true)
  (hr : RelH x0 w0 x s a w) (h : Hold x0 w0 x Q (ZkI s (Zc0 E chg (ZeP A.toList []) A.toList A.toList 0 [] [] s).val)) : (Code.region id A true).wp E.P Q a w := by
 have hk : (Zc0 E chg (ZeP A.toList []) A.toList A.toList 0 [] [] s).val.k ≠ .stop := by
  intro hk
  unfold ZkI at h
  rw [hk] at h
  exact Hold.stop hr h
 obtain ⟨S, T, h1, h2, h3, h4⟩ := Zy4 (fun _ _ h => Zs9 h) A.toList 0 [] [] s hk
 simp only [Nat.zero_add] at h2 h3 h4
 have hlen : A.toList.length = A.size := by simp
 rw [hlen] at h2 h4
 rw [h2] at h
 simp only [ZkI] at h
 have hst : ∀ k o, A[k]? = some o → Zgl E chg A.toList (S k) (T k) o (S (k + 1)) := fun k o ho => h3 k o (by rw [Zk]; simpa using ho)
 refine wp_region_any hP (ZGI hst hE hlex (fun k k' hk hk' hb => by have := (h4 k hk).bd k' hk'; simp only [Nat.zero_add] at this; exact this hb) (x0 := x0) (x := x) (w0 := w0) (fun x' a' w' hr' hxx => ?_) A.size _ a _ ?_ ?_)
 ·exact h x' a' w' hr' hxx
 ·have hr' := hr.same (Zcd.drew w)
  have hno : ∀ i, ¬ ZaG (Array.replicate A.size false) i := by
   intro i hi
   unfold ZaG at hi
   rw [Array.getD_eq_getD_getElem?, Array.getElem?_replicate] at hi
   split at hi <;> simp at hi
  refine ⟨by simp, fun j oj _ hl => absurd hl (hno j), by rw [h1]; exact hr.r.f.size.symm, hr.r.d, x, 0, Nat.zero_le _, fun c _ _ => ⟨fun h => by omega, fun h => absurd h (hno c)⟩, by rw [h1]; exact hr'.r.m, hr.e, ExtM.refl x, hr'.t, ?_⟩
  intro t k v hk' hwt hv
  refine Ztw hst (k := 0) (k' := k) (Nat.zero_le _) hk' (fun i oi hi hd hb => hno i ((hwt i oi hi hd).1 hb.2)) (fun v hv => ?_) v hv
  rw [h1] at hv
  exact hr.r.f.slot t v hv
 ·unfold Zfr
  have := List.length_filter_le (fun i => !(Array.replicate A.size false).getD i false) (List.range A.size)
  simpa using this
theorem RF.retag {x : Ctx} {sl : List V} {t : Array Value} (h : RF x sl t) (d : Nat) {v : V} (hv : RV x v (t.getD d undef)) : RF x (setN sl d v) t := by
 refine ⟨by simp [Zz, h.size], fun i v' e => ?_⟩
 by_cases hd : d = i
 ·subst hd
  have hlt := ZP e
  rw [Zz] at hlt e
  rw [Zk, List.getElem?_set_self (by simpa using hlt)] at e
  simp only [oinj] at e
  subst e; exact hv
 ·rw [Zk, Zz, List.getElem?_set_ne hd, ← Zk] at e
  exact h.slot i v' e
theorem RelH.retag {x0 x : Ctx} {w0 w : World} {s : St} {a : Act} (h : RelH x0 w0 x s a w) (d : Nat) {v : V} (hv : RV x v (a.tmps.getD d undef)) : RelH x0 w0 x (S3.put s (some d) v) a w :=
 ⟨⟨h.r.f.retag d hv, h.r.m, h.r.d⟩, h.e, h.t⟩
theorem RelH.ofMem {x0 x : Ctx} {w0 w : World} {s s' : St} {a : Act} (h : RelH x0 w0 x s a w) (h1 : s'.slots = s.slots) (h2 : s'.mem = s.mem) : RelH x0 w0 x s' a w :=
 ⟨⟨by rw [h1]; exact h.r.f, by rw [h2]; exact h.r.m, h.r.d⟩, h.e, h.t⟩
theorem Hold.backD {x0 x : Ctx} {w0 : World} {s : St} {Q : Exit → Act → World → Prop} {o : Out} (h : Hold x0 w0 x Q (S3.backD s o)) : Hold x0 w0 x Q o :=
 fun x' a' w' hr hx => h x' a' w' (hr.ofMem rfl rfl) hx
theorem Zxg {s : St} {o : Out} (h : Keep (Z2 s) o.s) : Keep s (S3.backD s o).s where
 sl := h.sl
 slot := fun t ht => by
  simp only [S3.backD, Zds, Bool.or_eq_false_iff] at ht
  exact ⟨ht.1, (h.slot t ht.2).2⟩
 bl := h.bl
 box := fun b l hl => by
  obtain ⟨l', h1, h2, h3⟩ := h.box b l hl
  refine ⟨l', h1, h2, fun j hj => ?_⟩
  simp only [S3.backD, ZbT, Bool.or_eq_false_iff] at hj
  exact ⟨hj.1, (h3 j hj.2).2⟩
 gl := h.gl
 stg := fun i g hg => by
  obtain ⟨g', h1, h2, h3⟩ := h.stg i g hg
  refine ⟨g', h1, h2, fun hj => ?_⟩
  simp only [S3.backD, ZbU, Bool.or_eq_false_iff] at hj
  exact ⟨hj.1, (h3 hj.2).2⟩
theorem Zdp {s : St} {t : RT Out} (h : AllK (Z2 s) t) : AllK s (t.map (backD s)) := RT.All.map (h.mono fun _ k => Zxg k)
theorem Zaj (s : St) : (Z2 s).dirty = 0 ∧ (Z2 s).bd = [] ∧ (Z2 s).sd = [] := ⟨rfl, rfl, rfl⟩
theorem RelH.reset {x0 x : Ctx} {w0 w : World} {s : St} {a : Act} (h : RelH x0 w0 x s a w) : RelH x0 w0 x (Z2 s) a w := h.ofMem rfl rfl
theorem Zth (id : Nat) (o : Out) : (unexit id o).s = o.s := by
 unfold unexit
 split
 ·split <;> rfl
 ·rfl
theorem Hold.unexit {x0 x : Ctx} {w0 : World} {id : Nat} {Q : Exit → Act → World → Prop} {o : Out} (h : Hold x0 w0 x Q (S3.unexit id o)) : Hold x0 w0 x (Exit.inBlock id Q) o := by
 intro x' a' w' hr hx
 have h' := h x' a' w' (by rw [Zth]; exact hr) hx
 unfold S3.unexit at h'
 split at h'
 ·rename_i i hk
  rw [hk]
  split at h'
  ·rename_i hi
   simp only [Nat.beq_eq] at hi
   simp only [QK, Exit.inBlock, hi, if_true]; exact h'
  ·rename_i hi
   have hne : i ≠ id := by intro e; subst e; simp at hi
   rw [hk] at h'
   simp only [QK, Exit.inBlock, hne, if_false]; exact h'
 ·rename_i hk
  cases hko : o.k with
  | normal => rw [hko] at h'; exact h'
  | exit i => exact absurd hko (hk i)
  | ret => rw [hko] at h'; exact h'
  | stop => rw [hko] at h'; exact h'
theorem Zx5 {a b : K} (h : Zx6 a b = true) : a = b := by
 cases a <;> cases b <;> simp [Zx6] at h <;> first | rfl | (subst h; rfl)
section
variable {s : St} (hs : s.dirty = 0 ∧ s.bd = [] ∧ s.sd = [])
include hs
theorem Zxb {c : Bool} {nm : Nm} {x y : Out} (h1 : Keep s x.s) (h2 : Keep s y.s) : AllK s (ZBk c (len s.mem.boxes) (len s.mem.stgs) nm x y) := by
 unfold ZBk
 split
 ·split
  ·rename_i m hm
   exact ZsN hs h1 h2 hm
  ·exact ⟨h1, h2⟩
 ·exact ⟨h1, h2⟩
theorem Zlm {c : Bool} {nm : Nm} {x : Out} (h1 : Keep s x.s) : ∀ {e : RT Out}, AllK s e → AllK s (Zxa c (len s.mem.boxes) (len s.mem.stgs) nm x e)
 | .leaf y, h => Zxb hs h1 h
 | .br b t f, h => by
  unfold Zxa
  split
  ·exact ⟨Zlm h1 h.1, h.2⟩
  ·exact ⟨h1, h⟩
theorem Zga {c : Bool} {nm : Nm} {e : RT Out} (h2 : AllK s e) : ∀ {t : RT Out}, AllK s t → AllK s (fork c (len s.mem.boxes) (len s.mem.stgs) nm t e)
 | .leaf x, h1 => by
  unfold fork
  split
  ·exact ⟨h2, h1⟩
  ·split
   ·exact ⟨h1, h2⟩
   ·exact Zlm hs h1 h2
 | .br b t f, h1 => by
  unfold fork
  split
  ·exact ⟨Zga h2 h1.1, h1.2⟩
  ·exact ⟨h1, h2⟩
theorem ZaR {nm : Nm} : ∀ {t : RT Out}, AllK s t → AllK s (Zfv (len s.mem.boxes) (len s.mem.stgs) nm t)
 | .leaf _, h => h
 | .br _ _ _, h => Zga hs (ZaR (And.right h)) (ZaR (And.left h))
end
section
variable {x0 x : Ctx} {w0 w : World} {s : St} {a : Act} (hr : RelH x0 w0 x s a w) {nm : Nm} {Q : Exit → Act → World → Prop}
include hr
theorem ZDB {c : Bool} {y1 y2 : Out} (h1 : Keep s y1.s) (h2 : Keep s y2.s) (h : Hold x0 w0 x Q (ZBk c (len s.mem.boxes) (len s.mem.stgs) nm y1 y2).val) : Hold x0 w0 x Q (cond c y1 y2) := by
 unfold ZBk at h
 split at h
 ·rename_i hk
  split at h
  ·rename_i m hm
   intro x' a' w' hr' hx'
   have hmm := ZAz hr h1 h2 hm
   have hk' := Zx5 hk
   have hs' : (cond c y1 y2).s = cond c y1.s y2.s := by cases c <;> rfl
   have hkk : (cond c y1 y2).k = y1.k := by cases c; exact hk'.symm; rfl
   rw [hs'] at hr'
   obtain ⟨x'', hr'', hx''⟩ := hmm x' a' w' hr' hx'
   rw [hkk]
   exact h x'' a' w' hr'' hx''
  ·exact h
 ·exact h
theorem ZnU {c : Bool} {y : Out} (h1 : Keep s y.s) : ∀ {e : RT Out}, AllK s e → Hold x0 w0 x Q (Zxa c (len s.mem.boxes) (len s.mem.stgs) nm y e).val → Hold x0 w0 x Q (cond c y e.val)
 | .leaf z, h2, h => ZDB hr h1 h2 h
 | .br b t f, h2, h => by
  unfold Zxa at h
  split at h
  ·cases c with
   | true => exact ZnU (c := true) (e := t) h1 h2.1 h
   | false =>
    cases b with
    | true => exact ZnU (c := false) (e := t) h1 h2.1 h
    | false => exact h
  ·cases c <;> exact h
theorem ZgV {c : Bool} {e : RT Out} (h2 : AllK s e) : ∀ {t : RT Out}, AllK s t → Hold x0 w0 x Q (fork c (len s.mem.boxes) (len s.mem.stgs) nm t e).val → Hold x0 w0 x Q (cond c t.val e.val)
 | .leaf y, h1, h => by
  unfold fork at h
  split at h
  ·cases c <;> exact h
  ·split at h
   ·cases c <;> exact h
   ·exact ZnU hr h1 h2 h
 | .br b t f, h1, h => by
  unfold fork at h
  split at h
  ·cases c with
   | true =>
    cases b with
    | true => exact ZgV (c := true) (t := t) h2 h1.1 h
    | false => exact h
   | false => exact ZgV (c := false) (t := t) h2 h1.1 h
  ·cases c <;> exact h
theorem Zda (hs : s.dirty = 0 ∧ s.bd = [] ∧ s.sd = []) : ∀ {t : RT Out}, AllK s t → Hold x0 w0 x Q (Zfv (len s.mem.boxes) (len s.mem.stgs) nm t).val → Hold x0 w0 x Q t.val
 | .leaf _, _, h => h
 | .br c t e, hk, h => by
  have hk1 : AllK s t := And.left hk
  have hk2 : AllK s e := And.right hk
  have h' := ZgV hr (ZaR hs hk2) (ZaR hs hk1) h
  cases c with
  | true =>
   have r : Hold x0 w0 x Q t.val := Zda hs hk1 h'
   exact r
  | false =>
   have r : Hold x0 w0 x Q e.val := Zda hs hk2 h'
   exact r
end
theorem Zg8 {E : Env} (hE : Za1 E) {s : St} {o : Oper} : (Zab E s o).All (fun r => ∀ q, r = some q → KeepR s q) := by
 unfold Zab
 split
 ·split
  ·split
   ·intro q hq; exact Zn4 hq
   ·intro q hq; simp at hq
  ·split
   ·split
    ·rename_i hfz
     split
     ·intro q hq
      simp only [oinj] at hq; subst hq
      exact KeepR.of (Zcs hfz) _ _
     ·intro q hq; simp at hq
    ·intro q hq; simp at hq
   ·split
    ·intro q hq
     simp only [oinj] at hq; subst hq
     exact .still rfl rfl rfl
    ·intro q hq; simp at hq
   ·rename_i g caps vs hcal hvs
    have : ∃ f, Zc E.P f (.tree g) := by
     unfold Zaq at hcal
     split at hcal
     ·split at hcal
      ·split at hcal
       ·rename_i e he
        simp only [oinj, pinj] at hcal
        rename_i f' _ _ _ _
        have := (hE _ _ he).plain
        rw [hcal.1] at this
        exact ⟨_, this⟩
       ·simp at hcal
      ·simp at hcal
     ·simp at hcal
    obtain ⟨f, hf⟩ := this
    have h := hf.2.1 (vs ++ caps) s.mem
    refine RT.All.map (h.mono fun r hr q hq => ?_)
    split at hq
    ·rename_i r0
     simp only [oinj] at hq; subst hq
     exact (hr r0 rfl).keepR
    ·simp at hq
   ·intro q hq; simp at hq
 ·split
  ·unfold idxT
   split
   ·rename_i k n _ _
    have : ∀ t x m j, (Zg1 E.P s t x k n m j).All fun r => ∀ q, r = some q → KeepR s q := by
     intro t x m
     induction m with
     | zero => intro j q hq; simp at hq
     | succ m ih => intro j; exact ⟨fun q hq => ZcM hq, ih _⟩
    exact this _ _ _ _
   ·intro q hq; exact ZcM hq
  ·intro q hq; simp at hq
 ·intro q hq; exact ZBp hq
theorem ZkK {E : Env} (hE : Za1 E) {s : St} {o : Oper} {k : St → RT Out} (hk : ∀ s', Keep s s' → AllK s' (k s')) : AllK s (ZxX E s o k) := by
 unfold ZxX
 refine RT.All.bind ((Zg8 hE).mono fun r hr => ?_)
 cases r with
 | none => exact ZY s
 | some r => exact Zet ((hk _ ((hr r rfl).keep _)).trans ((hr r rfl).keep _))
theorem Zs0 {nm : Nm} {ops : List Oper} {s : St} {g : Option (Nat × Bool)} {run skip : St → RT Out} (h1 : ∀ s', AllK s' (run s')) (h2 : ∀ s', AllK s' (skip s')) : AllK s (Zqf nm ops s g run skip) := by
 have hb : ∀ (t e : RT Out) (b : Bool), AllK (Z2 s) t → AllK (Z2 s) e → AllK s ((fork b (len s.mem.boxes) (len s.mem.stgs) nm t e).map (backD s)) := fun t e b ht he =>
  Zdp (Zga (s := Z2 s) (Zaj s) he ht)
 unfold Zqf
 repeat' split
 all_goals first
  | exact ZY s
  | exact h1 s
  | exact h2 s
  | exact hb _ _ _ ((h1 _).trans (Keep.put _ _ _)) ((h2 _).trans (Keep.put _ _ _))
  | exact hb _ _ _ ((h2 _).trans (Keep.put _ _ _)) ((h1 _).trans (Keep.put _ _ _))
theorem Zcw {E : Env} (hE : Za1 E) {ops : List Oper} : ∀ (l : List Oper) (s : St), AllK s (Zxd E ops l s)
 | [], s => Keep.refl s
 | _ :: l, _ => Zs0 (fun _ => ZkK hE fun s'' _ => Zcw hE l s'') (fun _ => (Zcw hE l _).trans (Keep.put _ _ _))
theorem ZB8 {E : Env} (hE : Za1 E) {x0 x : Ctx} {w0 w : World} {s : St} {a : Act} {o : Oper} {k : St → RT Out} {Q : Exit → Act → World → Prop} {next : Act → World → Prop}
  (hr : RelH x0 w0 x s a w) (h : Hold x0 w0 x Q (ZxX E s o k).val)
  (hn : ∀ x' s' a' w', RelH x0 w0 x' s' a' w' → ExtM x x' → Hold x0 w0 x' Q (k s').val → next a' w') : o.wp E.P a w next Q := by
 unfold ZxX at h
 rw [RT.val_bind] at h
 cases hres : (Zab E s o).val with
 | none => rw [hres] at h; exact (Hold.stop hr h).elim
 | some r =>
  rw [hres] at h
  obtain ⟨hc, h⟩ := Hold.chk hr (show Hold x0 w0 x Q (chkT r.chk s (k (putRes s o.dst r))).val from h)
  exact ZkL hE hr.r.f hr.r.d hr.r.m hres hc fun v w' x' hv hm he ht => hn x' _ _ _ (hr.putRes o.dst hv hm he ht) he.extM (h.ext he.extM)
theorem ZBe {x0 x : Ctx} {w0 w : World} {s : St} {a : Act} {nm : Nm} {ops : List Oper} {o : Oper} {run skip : St → RT Out} {Q : Exit → Act → World → Prop} (k1 : ∀ s', AllK s' (run s')) (k2 : ∀ s', AllK s' (skip s'))
  (hr : RelH x0 w0 x s a w) (h : Hold x0 w0 x Q (Zqf nm ops s o.guard run skip).val) :
  (Region.wanted o (yielded ops.toArray a.tmps) = true ∧ ∃ s', RelH x0 w0 x s' a w ∧ Hold x0 w0 x Q (run s').val) ∨
  (Region.wanted o (yielded ops.toArray a.tmps) = false ∧ ∃ s', RelH x0 w0 x s' a w ∧ Hold x0 w0 x Q (skip s').val) := by
 unfold Zqf at h
 split at h
 ·rename_i hg
  exact .inl ⟨by simp [Region.wanted, hg], s, hr, h⟩
 ·rename_i j want hg
  split at h
  ·rename_i oj hoj
   split at h
   ·rename_i d hd
    have hy := ZkA (a := a) hoj hd
    have hw : Region.wanted o (yielded ops.toArray a.tmps) = ((match a.tmps.getD d undef with | .bool b => some b | _ => none) == some want) := by
     simp only [Region.wanted, hg, hy]; try rfl
    split at h
    ·rename_i b hs
     have hv := ZbE (hr.r.f.slot d _ hs)
     rw [hv] at hw
     split at h
     ·rename_i hb
      exact .inl ⟨by rw [hw]; simpa using hb, s, hr, h⟩
     ·rename_i hb
      exact .inr ⟨by rw [hw]; simpa using hb, s, hr, h⟩
    ·rename_i b hs
     have hv := ZbE (hr.r.f.slot d _ hs)
     rw [hv] at hw
     have hr0 : RelH x0 w0 x (Z2 s) a w := hr.reset
     have hrt : ∀ c, c = b → RelH x0 w0 x (S3.put (Z2 s) (some d) (.w (.one (.bool true c)))) a w := fun c e => hr0.retag d (by rw [hv, e]; exact .bool _ _ _)
     have kr : ∀ v, AllK (Z2 s) (run (S3.put (Z2 s) (some d) v)) := fun v => (k1 _).trans (Keep.put _ _ _)
     have ks : ∀ v, AllK (Z2 s) (skip (S3.put (Z2 s) (some d) v)) := fun v => (k2 _).trans (Keep.put _ _ _)
     cases want with
     | true =>
      simp only at h
      rw [RT.val_map] at h
      have h' := ZgV hr0 (ks _) (kr _) h.backD
      cases b with
      | true => exact .inl ⟨by rw [hw]; rfl, _, hrt true rfl, h'⟩
      | false => exact .inr ⟨by rw [hw]; rfl, _, hrt false rfl, h'⟩
     | false =>
      simp only at h
      rw [RT.val_map] at h
      have h' := ZgV hr0 (kr _) (ks _) h.backD
      cases b with
      | true => exact .inr ⟨by rw [hw]; rfl, _, hrt true rfl, h'⟩
      | false => exact .inl ⟨by rw [hw]; rfl, _, hrt false rfl, h'⟩
    ·rename_i hs
     obtain ⟨C, hv, hC⟩ := hr.r.f.slot d _ hs
     rw [hv] at hw
     exact .inr ⟨by rw [hw]; rfl, s, hr, h⟩
    ·exact (Hold.stop hr h).elim
   ·exact (Hold.stop hr h).elim
  ·exact (Hold.stop hr h).elim
theorem RelH.skip {x0 x : Ctx} {w0 w : World} {s : St} {a : Act} (h : RelH x0 w0 x s a w) (d : Option Nat) : RelH x0 w0 x (S3.put s d Zg5) (a.put d undef) w :=
 ⟨⟨RF.put h.r.f d ⟨[], rfl, trivial⟩, by rw [Zec]; exact h.r.m, by rw [Zmd]; exact h.r.d⟩, h.e, h.t⟩
theorem ZnW {E : Env} (hE : Za1 E) {x0 : Ctx} {w0 : World} {ops : List Oper} {Q : Exit → Act → World → Prop} : ∀ (l : List Oper) (x : Ctx) (w : World) (s : St) (a : Act),
  RelH x0 w0 x s a w → Hold x0 w0 x Q (Zxd E ops l s).val → wpList E.P ops.toArray Q l a w
 | [], x, w, s, a, hr, h => h x a w hr (ExtM.refl x)
 | o :: l, x, w, s, a, hr, h => by
  simp only [Zxd] at h
  unfold wpList
  rcases ZBe (fun _ => ZkK hE fun s'' _ => Zcw hE l s'') (fun _ => (Zcw hE l _).trans (Keep.put _ _ _)) hr h with ⟨hw, s', hr', h'⟩ | ⟨hw, s', hr', h'⟩
  ·rw [if_pos hw]
   refine .inl (ZB8 hE hr' h' fun x' s2 a' w' hr2 hx h2 => ZnW hE l x' w' s2 a' hr2 h2)
  ·rw [if_neg (by simp [hw])]
   exact ZnW hE l x w _ _ (hr'.skip o.dst) h'
theorem Zs1 {ops : List Oper} {s : St} {g : Option (Nat × Bool)} {run skip : St → RT Out} (h1 : ∀ s', AllK s' (run s')) (h2 : ∀ s', AllK s' (skip s')) : AllK s (Zli ops s g run skip) := by
 unfold Zli
 repeat' split
 all_goals first
  | exact ZY s
  | exact h1 s
  | exact h2 s
  | exact ⟨(h1 _).trans (Keep.put _ _ _), (h2 _).trans (Keep.put _ _ _)⟩
  | exact ⟨(h2 _).trans (Keep.put _ _ _), (h1 _).trans (Keep.put _ _ _)⟩
theorem KeepR.unmask {s : St} {o : Oper} {r : Res} (h : KeepR (mask s o) r) : KeepR s r := ⟨h.bl, h.box, h.gl, h.stg⟩
theorem ZbY {E : Env} (hE : Za1 E) {chg : Bool} {cls : List Nat} {ops : List Oper} : ∀ (l : List Oper) (i : Nat) (cs rs : List (Nat × Option (Nat × Bool))) (s : St), AllK s (Zc0 E chg cls ops l i cs rs s)
 | [], _, _, _, s => Keep.refl s
 | o :: l, i, cs, rs, s => by
  simp only [Zc0]
  refine Zs1 (fun s' => ?_) (fun s' => (ZbY hE l _ _ _ _).trans (Keep.put _ _ _))
  split
  ·exact Zet ((ZbY hE l _ _ _ _).trans (Keep.put _ _ _))
  ·split
   ·split
    ·split
     ·exact Zet ((ZbY hE l _ _ _ _).trans (Keep.put _ _ _))
     ·exact ZY s'
    ·split
     ·refine RT.All.bind ((Zg8 hE).mono fun r hr => ?_)
      cases r with
      | none => exact ZY s'
      | some r =>
       have := (hr r rfl).unmask
       exact Zet ((ZbY hE l _ _ _ _).trans (this.keep _))
     ·exact ZY s'
   ·exact ZY s'
theorem ZkH {s : St} {t : RT Out} (h : AllK s t) : AllK s (t.map (ZkI s)) := RT.All.map (h.mono fun o k => by
 unfold ZkI
 split
 ·exact Keep.refl s
 ·exact k)
theorem ZgB {E : Env} : ∀ (l : List Oper) (s : St), Keep s (Zfd E s l)
 | [], s => Keep.refl s
 | o :: l, s => by
  unfold Zfd
  repeat' split
  all_goals first
   | exact ZgB l s
   | (rename_i hfz; exact (Zcs hfz).trans (ZgB l _))
theorem Zmk {E : Env} {x0 : Ctx} {w0 w : World} {a : Act} : ∀ (l : List Oper) (x : Ctx) (s : St), RelH x0 w0 x s a w → ∃ x', RelH x0 w0 x' (Zfd E s l) a w ∧ ExtM x x'
 | [], x, s, hr => ⟨x, hr, ExtM.refl x⟩
 | o :: l, x, s, hr => by
  unfold Zfd
  repeat' split
  all_goals first
   | exact Zmk l x s hr
   | skip
  all_goals
   rename_i vs hvs _ vs' s' hfz
   obtain ⟨x1, m1, e1, _, k1⟩ := ZdC hr.r.m (ZgG hr.r.f hvs) hfz
   have hr1 : RelH x0 w0 x1 s' a w := ⟨⟨by rw [k1.sl]; exact hr.r.f.mono e1, m1, hr.r.d⟩, hr.e.trans e1, hr.t⟩
   obtain ⟨x2, hr2, hx2⟩ := Zmk l x1 s' hr1
   exact ⟨x2, hr2, e1.extM.trans hx2⟩
theorem Zs6 {E : Env} (hE : Za1 E) (ops : List Oper) (s : St) : AllK s (Zvl E ops s) :=
 Zdp (ZaR (s := Z2 s) (Zaj s) (ZkH (ZbY hE _ _ _ _ _)))
theorem ZBx {E : Env} (hE : Za1 E) {x0 x : Ctx} {w0 w : World} {s : St} {a : Act} {A : Array Oper} {id : Nat} {Q : Exit → Act → World → Prop} (hP : E.P.follows .mixedOrders = true) (hlex : lexL A.toList = true)
  (hr : RelH x0 w0 x s a w) (h : Hold x0 w0 x Q (Zvl E A.toList s).val) : (Code.region id A true).wp E.P Q a w := by
 unfold Zvl at h
 rw [RT.val_map] at h
 have h' := Zda hr.reset (Zaj s) (ZkH (ZbY hE _ _ _ _ _)) h.backD
 rw [RT.val_map] at h'
 exact ZDJ hE hP hlex hr.reset h'
def Zbe (E : Env) (c : Code) (f : Ora) : Prop :=
 (∀ s, AllK s (f s)) ∧ ∀ x0 w0 x s a w Q, RelH x0 w0 x s a w → Hold x0 w0 x Q (f s).val → c.wp E.P Q a w
def ZO (E : Env) : Code → Prop
 | .seq a b => ZO E a ∧ ZO E b
 | .cond _ a b => ZO E a ∧ ZO E b
 | .block id c => match c with
  | .loop b => match E.loops id with
   | some f => Zbe E (.block id (.loop b)) f
   | none => ZO E b
  | c => ZO E c
 | _ => True
theorem Zhk (E : Env) (id : Nat) (c : Code) (s : St) (hc : ∀ b, c ≠ .loop b) : ZaO E (.block id c) s = (Zfv (len s.mem.boxes) (len s.mem.stgs) ⟨E.named, true⟩ ((ZaO E c (Z2 s)).map (unexit id))).map (backD s) := by
 cases c <;> first | rfl | exact absurd rfl (hc _)
theorem ZdJ {E : Env} {id : Nat} {c : Code} (hc : ∀ b, c ≠ .loop b) (h : ZO E (.block id c)) : ZO E c := by
 cases c <;> first | exact h | exact absurd rfl (hc _)
theorem Zeu {s : St} {id : Nat} {t : RT Out} (h : AllK s t) : AllK s (t.map (unexit id)) := RT.All.map (h.mono fun o k => by rw [Zth]; exact k)
theorem Ze6 {round : St → RT Out} (h : ∀ s, AllK s (round s)) : ∀ (n : Nat) (s : St), AllK s (Zgm round n s)
 | 0, s => ZY s
 | n + 1, s => by
  unfold Zgm seqT
  refine RT.All.bind ((h s).mono fun o k => ?_)
  split
  ·exact (Ze6 h n o.s).trans k
  ·exact k
theorem ZZ {E : Env} (hE : Za1 E) : ∀ (c : Code) (s : St), ZO E c → AllK s (ZaO E c s)
 | .skip, s, _ => Keep.refl s
 | .region _ ops draw, s, _ => by
  unfold ZaO
  split
  ·exact Zdp (ZaR (s := Z2 s) (Zaj s) (Zcw hE _ _))
  ·split
   ·exact ZY s
   ·exact (Zs6 hE _ _).trans (ZgB (E := E) _ _)
 | .seq c d, s, h => by
  unfold ZaO seqT
  refine RT.All.bind ((ZZ hE c s h.1).mono fun o k => ?_)
  split
  ·exact (ZZ hE d o.s h.2).trans k
  ·exact k
 | .cond x c d, s, h => by
  unfold ZaO
  split
  ·split
   ·exact ZZ hE c s h.1
   ·exact ZZ hE d s h.2
  ·exact Zdp (Zga (s := Z2 s) (Zaj s) (ZZ hE d _ h.2) (ZZ hE c _ h.1))
  ·exact ZY s
 | .block id c, s, h => by
  by_cases hc : ∀ b, c ≠ .loop b
  ·rw [Zhk E id c s hc]
   exact Zdp (ZaR (s := Z2 s) (Zaj s) (Zeu (ZZ hE c _ (ZdJ hc h))))
  ·have : ∃ b, c = .loop b := by
    cases c <;> first | exact ⟨_, rfl⟩ | exact absurd (fun b e => by cases e) hc
   obtain ⟨b, rfl⟩ := this
   unfold ZaO
   unfold ZO at h
   split
   ·rename_i f hf
    simp only [hf] at h
    exact h.1 s
   ·rename_i hf
    simp only [hf] at h
    exact Zdp (ZaR (s := Z2 s) (Zaj s) (Zeu (Ze6 (fun s' => ZZ hE b s' h) _ _)))
 | .exit _, s, _ => Keep.refl s
 | .ret, s, _ => Keep.refl s
 | .loop _, s, _ => ZY s
 | .rangeFunc .., s, _ => ZY s
 | .scope _, s, _ => ZY s
 | .label _, s, _ => ZY s
 | .goto _, s, _ => ZY s
 | .refuse _, s, _ => ZY s
theorem Zoc {P : Program} {x0 : Ctx} {w0 : World} {b : Code} {round : St → RT Out} {Q : Exit → Act → World → Prop}
  (hb : ∀ (x : Ctx) (s : St) (a : Act) (w : World) (Q : Exit → Act → World → Prop), RelH x0 w0 x s a w → Hold x0 w0 x Q (round s).val → b.wp P Q a w) :
  ∀ (n : Nat) (x : Ctx) (s : St) (a : Act) (w : World), RelH x0 w0 x s a w → Hold x0 w0 x Q (Zgm round n s).val → Code.rounds P b Q n a w
 | 0, x, s, a, w, hr, h => (Hold.stop hr h).elim
 | n + 1, x, s, a, w, hr, h => by
  rw [rounds_succ]
  unfold Zgm seqT at h
  rw [RT.val_bind] at h
  refine hb x s a w _ hr fun x' a' w' hr' hx' => ?_
  generalize hv : (round s).val = o at *
  obtain ⟨k, s'⟩ := o
  cases k with
  | normal => exact Zoc hb n x' s' a' w' hr' (h.ext hx')
  | exit i => exact h x' a' w' hr' hx'
  | ret => exact h x' a' w' hr' hx'
  | stop => exact h x' a' w' hr' hx'
theorem Zbj {E : Env} (hE : Za1 E) {x0 : Ctx} {w0 : World} : ∀ (c : Code), ZO E c → ∀ (x : Ctx) (s : St) (a : Act) (w : World) (Q : Exit → Act → World → Prop),
  RelH x0 w0 x s a w → Hold x0 w0 x Q (ZaO E c s).val → c.wp E.P Q a w
 | .skip, _, x, s, a, w, Q, hr, h => wp_skip (h x a w hr (ExtM.refl x))
 | .region id ops draw, _, x, s, a, w, Q, hr, h => by
  unfold ZaO at h
  split at h
  ·rw [RT.val_map] at h
   have h' := Zda hr.reset (Zaj s) (Zcw hE _ _) h.backD
   exact wp_region_list (by have := ZnW hE ops.toList x w _ a hr.reset h'; simpa using this)
  ·split at h
   ·exact (Hold.stop hr h).elim
   ·rename_i hd
    simp only [Bool.and_eq_true] at hd
    obtain ⟨x', hr', hx'⟩ := Zmk (E := E) ops.toList x s hr
    exact ZBx hE hd.2 hd.1 hr' (h.ext hx')
 | .seq c d, hl, x, s, a, w, Q, hr, h => by
  unfold ZaO seqT at h
  rw [RT.val_bind] at h
  refine wp_seq (Zbj hE c hl.1 x s a w _ hr fun x' a' w' hr' hx' => ?_)
  generalize hv : (ZaO E c s).val = o at *
  obtain ⟨k, s'⟩ := o
  cases k with
  | normal => exact Zbj hE d hl.2 x' s' a' w' Q hr' (h.ext hx')
  | exit i => exact h x' a' w' hr' hx'
  | ret => exact h x' a' w' hr' hx'
  | stop => exact h x' a' w' hr' hx'
 | .cond y c d, hl, x, s, a, w, Q, hr, h => by
  unfold ZaO at h
  split at h
  ·rename_i b hb
   have hv := ZbE (Zad hr.r.f hb)
   cases b with
   | true => exact wp_cond_true hv (Zbj hE c hl.1 x s a w Q hr h)
   | false => exact wp_cond_false hv (Zbj hE d hl.2 x s a w Q hr h)
  ·rename_i b hb
   have hv := ZbE (Zad hr.r.f hb)
   rw [RT.val_map] at h
   have hr' : RelH x0 w0 x (Z2 s) a w := hr.ofMem rfl rfl
   have h' := ZgV hr' (ZZ hE d _ hl.2) (ZZ hE c _ hl.1) h.backD
   cases b with
   | true => exact wp_cond_true hv (Zbj hE c hl.1 x _ a w Q hr' h')
   | false => exact wp_cond_false hv (Zbj hE d hl.2 x _ a w Q hr' h')
  ·exact (Hold.stop hr h).elim
 | .block id c, hl, x, s, a, w, Q, hr, h => by
  by_cases hc : ∀ b, c ≠ .loop b
  ·rw [Zhk E id c s hc, RT.val_map] at h
   have hr' : RelH x0 w0 x (Z2 s) a w := hr.ofMem rfl rfl
   have h' := Zda hr' (Zaj s) (Zeu (ZZ hE c _ (ZdJ hc hl))) h.backD
   rw [RT.val_map] at h'
   exact wp_block (Zbj hE c (ZdJ hc hl) x _ a w _ hr' h'.unexit)
  ·have : ∃ b, c = .loop b := by
    cases c <;> first | exact ⟨_, rfl⟩ | exact absurd (fun b e => by cases e) hc
   obtain ⟨b, rfl⟩ := this
   unfold ZaO at h
   unfold ZO at hl
   split at h
   ·rename_i f hf
    simp only [hf] at hl
    exact hl.2 x0 w0 x s a w Q hr h
   ·rename_i hf
    simp only [hf] at hl
    rw [RT.val_map] at h
    have hr' : RelH x0 w0 x (Z2 s) a w := hr.ofMem rfl rfl
    have h' := Zda hr' (Zaj s) (Zeu (Ze6 (fun s' => ZZ hE b s' hl) _ _)) h.backD
    rw [RT.val_map] at h'
    exact wp_block (wp_loop_rounds E.fuel (Zoc (fun x s a w Q hr h => Zbj hE b hl x s a w Q hr h) E.fuel x _ a w hr' h'.unexit))
 | .exit i, _, x, s, a, w, Q, hr, h => wp_exit (h x a w hr (ExtM.refl x))
 | .ret, _, x, s, a, w, Q, hr, h => wp_ret (h x a w hr (ExtM.refl x))
 | .loop _, _, x, s, a, w, Q, hr, h => (Hold.stop hr h).elim
 | .rangeFunc .., _, x, s, a, w, Q, hr, h => (Hold.stop hr h).elim
 | .scope _, _, x, s, a, w, Q, hr, h => (Hold.stop hr h).elim
 | .label _, _, x, s, a, w, Q, hr, h => (Hold.stop hr h).elim
 | .goto _, _, x, s, a, w, Q, hr, h => (Hold.stop hr h).elim
 | .refuse _, _, x, s, a, w, Q, hr, h => (Hold.stop hr h).elim
def resG (tmps : Array Value) : ResultVar → Sem Value
 | .tmp t => pure (tmps.getD t undef)
 | .cell c t => do loadVar t (← asAddr (tmps.getD c undef))
theorem ZvB (fn : Func) (tmps : Array Value) : results fn tmps = (do let vs ← fn.results.mapM (resG tmps); pure (if h : vs.size = 1 then vs[0] else .tuple vs)) := by
 unfold results
 congr 1
theorem Zfb {P : Program} {x : Ctx} {w : World} {s : St} {a : Act} (hr : Rel x s a w) : ∀ (l : List ResultVar) (ws : List W), ZcS P s l = some ws →
  ∃ vs, RWs x ws vs ∧ (l.mapM (resG a.tmps)).run P w = .ok vs w
 | [], ws, h => by
  simp only [ZcS, oinj] at h; subst h
  exact ⟨[], trivial, by simp⟩
 | .tmp t :: l, ws, h => by
  simp only [ZcS] at h
  split at h
  ·rename_i y r hy hl
   simp only [oinj] at h; subst h
   obtain ⟨vs, h1, h2⟩ := Zfb hr l r hl
   refine ⟨a.tmps.getD t undef :: vs, ⟨hr.f.slot t _ hy, h1⟩, ?_⟩
   rw [List.mapM_cons]
   simp only [resG, Sem.run_bind, Sem.run_pure, Result.andThen_ok]
   rw [h2]; rfl
  ·simp at h
 | .cell t ty :: l, ws, h => by
  simp only [ZcS] at h
  split at h
  ·rename_i p r hp hl
   split at h
   ·rename_i y hy
    simp only [oinj] at h; subst h
    obtain ⟨vs, h1, h2⟩ := Zfb hr l r hl
    have hpv := hr.f.slot t _ hp
    obtain ⟨u, h3, h4⟩ := Zu0 (P := P) hr.m.toR hpv hy
    have h3 := h3 w (ZD.refl w)
    refine ⟨u :: vs, ⟨h4, h1⟩, ?_⟩
    rw [List.mapM_cons]
    have h5 : (resG a.tmps (.cell t ty)).run P w = .ok u w := by
     show ((do loadVar ty (← asAddr (a.tmps.getD t undef)) : Sem Value)).run P w = .ok u w
     unfold Zp7 at hy
     split at hy
     ·rename_i q hq
      obtain ⟨b, o, e, _⟩ := Zlq hr.m.toR hpv hq
      rw [e] at h3 ⊢
      simpa [Instr.loadAt, Instr.sureAddr, asAddr] using h3
     ·simp at hy
    rw [Sem.run_bind, h5]
    simp only [Result.andThen_ok]
    rw [Sem.run_bind, h2]; rfl
   ·simp at h
  ·simp at h
theorem ZvC {P : Program} {x : Ctx} {w : World} {s : St} {a : Act} (hr : Rel x s a w) {fn : Func} {v : V} (h : ZlS P fn s = some v) :
  ∃ val, (results fn a.tmps).run P w = .ok val w ∧ RV x v val := by
 unfold ZlS at h
 have key : ∀ ws, ZcS P s fn.results.toList = some ws → ∃ vs, RWs x ws vs ∧ (fn.results.mapM (resG a.tmps)).run P w = .ok vs.toArray w := by
  intro ws hws
  obtain ⟨vs, h1, h2⟩ := Zfb (P := P) hr _ _ hws
  refine ⟨vs, h1, ?_⟩
  rw [Array.mapM_eq_mapM_toList, Sem.run_map, h2]
  rfl
 have fin : ∀ vs : List Value, (fn.results.mapM (resG a.tmps)).run P w = .ok vs.toArray w →
   (results fn a.tmps).run P w = .ok (if h : vs.toArray.size = 1 then vs.toArray[0] else .tuple vs.toArray) w := by
  intro vs hvs
  rw [ZvB, Sem.run_bind, hvs]
  rfl
 split at h
 ·rename_i y hy
  simp only [oinj] at h; subst h
  obtain ⟨vs, h1, h2⟩ := key _ hy
  match vs, h1 with
  | [u], h1 => exact ⟨u, by have := fin [u] h2; simpa using this, h1.1⟩
 ·rename_i l hne hl
  simp only [oinj] at h; subst h
  obtain ⟨vs, h1, h2⟩ := key _ hl
  refine ⟨.tuple vs.toArray, ?_, vs, rfl, h1⟩
  have := fin vs h2
  rw [this]
  have hlen : vs.toArray.size ≠ 1 := by
   intro e
   match vs, h1 with
   | [u], h1 =>
    match l, h1 with
    | [y], _ => exact hne y rfl
   | [], _ => simp at e
   | _ :: _ :: _, _ => simp at e
  rw [dif_neg hlen]
 ·simp at h
theorem Zyi {α : Type} (x : α) : ∀ n, rep x n = List.replicate n x
 | 0 => rfl
 | n + 1 => by simp [rep, Zyi x n, List.replicate_succ]
theorem RVs.length {x : Ctx} : ∀ {l : List V} {vs : List Value}, RVs x l vs → l.length = vs.length
 | [], [], _ => rfl
 | _ :: l, _ :: r, h => by have := RVs.length (l := l) (vs := r) h.2; simp only [List.length_cons, this]
 | [], _ :: _, h => h.elim
 | _ :: _, [], h => h.elim
theorem RVs.nth {x : Ctx} : ∀ {l : List V} {vs : List Value}, RVs x l vs → ∀ (j : Nat) (a : V), nth l j = some a → ∃ v, vs[j]? = some v ∧ RV x a v
 | [], [], _, j, a, e => by simp [S3.nth] at e
 | b :: l, v :: r, h, 0, a, e => by simp [S3.nth] at e; subst e; exact ⟨v, by simp, h.1⟩
 | b :: l, v :: r, h, j + 1, a, e => by simp only [S3.nth] at e; simpa using RVs.nth h.2 j a e
 | [], _ :: _, h, _, _, _ => h.elim
 | _ :: _, [], h, _, _, _ => h.elim
theorem ZB9 {x : Ctx} {m : Mem} {w : World} (hm : MemOk x m w) {vs : List V} {args : List Value} (hv : RVs x vs args) (fn : Func) :
  Rel x (Zvw fn vs m) { tmps := args.toArray ++ Array.replicate (fn.ntmps - args.toArray.size) undef, defers := [] } w := by
 have hl := hv.length
 refine ⟨⟨?_, fun i v h => ?_⟩, hm, rfl⟩
 ·simp [Zvw, Zyi, Z4, hl]
 ·simp only [Zvw, Zyi, Z4] at h
  rw [Zk] at h
  by_cases hi : i < vs.length
  ·rw [List.getElem?_append_left hi, ← Zk] at h
   obtain ⟨u, h1, h2⟩ := hv.nth i v h
   have : (args.toArray ++ Array.replicate (fn.ntmps - args.toArray.size) undef).getD i undef = u := by
    rw [Array.getD_eq_getD_getElem?, Array.getElem?_append_left (by simp; omega)]
    simp [h1]
   rw [this]; exact h2
  ·rw [List.getElem?_append_right (by omega)] at h
   have hv : v = Zg5 := by
    rw [List.getElem?_replicate] at h
    split at h <;> simp at h
    exact h.symm
   subst hv
   have : (args.toArray ++ Array.replicate (fn.ntmps - args.toArray.size) undef).getD i undef = undef := by
    rw [Array.getD_eq_getD_getElem?, Array.getElem?_append_right (by simp; omega)]
    rw [Array.getElem?_replicate]
    split <;> rfl
   rw [this]
   exact ⟨[], rfl, trivial⟩
theorem ZaM {E : Env} (hE : Za1 E) {f : FuncId} {fn : Func} {c : Code} (hf : E.P.funcs[f]? = some fn) (hb : fn.body = some c) (hl : ZO E c)
  {x : Ctx} {m : Mem} {w : World} {vs : List V} {args : List Value} (hm : MemOk x m w) (hv : RVs x vs args) {r : Res} (h : (ZQ E fn vs m).val = some r) :
  Calls E.P f args.toArray w (fun e w' => ∃ val x', e = .returned val ∧ RV x' r.v val ∧ MemOk x' r.m w' ∧ Ext x x' ∧ Step x w w') := by
 unfold ZQ at h
 rw [hb] at h
 simp only [RT.val_map] at h
 refine calls_of_wp hf hb (Zbj hE (x0 := x) (w0 := w) c hl x _ _ w _ ⟨ZB9 hm hv fn, Ext.refl x, Step.refl x w⟩ ?_)
 intro x' a' w' hr _
 generalize hv : (ZaO E c (Zvw fn vs m)).val = o at *
 have fin : ∀ s' v, o.s = s' → ZlS E.P fn s' = some v → ofSt s' none v = r → a'.defers = [] ∧ ∃ val, (results fn a'.tmps).run E.P w' = .ok val w' ∧
   (∃ val' x'', Ending.returned val = Ending.returned val' ∧ RV x'' r.v val' ∧ MemOk x'' r.m w' ∧ Ext x x'' ∧ Step x w w') := by
  intro s' v hs hrv hmm
  subst hs
  obtain ⟨val, h1, h2⟩ := ZvC hr.r hrv
  subst hmm
  exact ⟨hr.r.d, val, h1, val, x', rfl, h2, hr.r.m, hr.e, hr.t⟩
 unfold Zvh at h
 split at h
 ·rename_i hk
  rw [hk]
  split at h
  ·rename_i u hu
   simp only [oinj] at h
   exact fin o.s u rfl hu h
  ·simp at h
 ·rename_i hk
  rw [hk]
  split at h
  ·rename_i u hu
   simp only [oinj] at h
   exact fin o.s u rfl hu h
  ·simp at h
 ·simp at h
theorem Zs3 {P : Program} {fn : Func} {vs : List V} {m : Mem} {o : Out} (h : Keep (Zvw fn vs m) o.s) {r : Res} (hr : Zvh P fn o = some r) : KeepC m r := by
 have fin : ∀ v, ofSt o.s none v = r → KeepC m r := by
  intro v hv; subst hv
  exact ⟨h.bl, fun b l hl => by
   obtain ⟨l', h1, h2, h3⟩ := h.box b l hl
   exact ⟨l', h1, h2, fun j hj => (h3 j hj).2⟩, h.gl, fun i g hg => by
   obtain ⟨g', h1, h2, h3⟩ := h.stg i g hg
   exact ⟨g', h1, h2, fun hj => (h3 hj).2⟩⟩
 unfold Zvh at hr
 split at hr
 ·split at hr
  ·simp only [oinj] at hr; exact fin _ hr
  ·simp at hr
 ·split at hr
  ·simp only [oinj] at hr; exact fin _ hr
  ·simp at hr
 ·simp at hr
theorem Zs5 {E : Env} (hE : Za1 E) {fn : Func} {c : Code} (hb : fn.body = some c) (hl : ZO E c) (vs : List V) (m : Mem) : (ZQ E fn vs m).All (fun r => ∀ q, r = some q → KeepC m q) := by
 unfold ZQ
 rw [hb]
 exact RT.All.map ((ZZ hE c _ hl).mono fun o h q hq => Zs3 h hq)
theorem ZA1 {E : Env} (hE : Za1 E) {f : FuncId} {fn : Func} {c : Code} (hf : E.P.funcs[f]? = some fn) (hb : fn.body = some c) (hl : ZO E c) (hcall : ZG E.P f) :
  Zc E.P f (.tree (ZQ E fn)) :=
 ⟨hcall, Zs5 hE hb hl, fun _ _ _ hr _ _ _ _ hm hv => ZaM hE hf hb hl hm hv hr⟩
def Ctx.own0 (w : World) (fz : Nat → Nat → Option Value) : Ctx := { own := fun k => w.heap.size ≤ k, M := [], S := [], fz := fz }
theorem Zsv {x : Ctx} {m : Mem} {w : World} (hm : MemOk x m w) : MemOk (Ctx.own0 w x.fz) Zc1 w where
 fresh := fun _ h => h
 fz := hm.fz
 ml := rfl
 box := fun b l p h => by simp [Zc1, Zn] at h
 mown := fun b p h => by simp [Ctx.own0, Zn] at h
 inj := fun b b' p h => by simp [Ctx.own0, Zn] at h
 sl := rfl
 stg := fun i g s h => by simp [Zc1, Zn] at h
 sown := fun i s p cap h => by simp [Ctx.own0, Zn] at h
 sinj := fun i i' s s' p cap cap' h => by simp [Ctx.own0, Zn] at h
theorem Za3 {w w' : World} {fz : Nat → Nat → Option Value} (h : Step (Ctx.own0 w fz) w w') : Zcd w w' :=
 ⟨⟨h.size, fun k hk => h.block k (by simp [Ctx.own0]; omega)⟩, h.os, h.tape, h.output⟩
theorem Ztd {x : Ctx} {m : Mem} {w w' : World} {x2 : Ctx} (hm : MemOk x m w) (hx : Ext (Ctx.own0 w x.fz) x2) (hz : ∀ b o v, x2.fz b o = some v → w'.cell? ⟨b, o, none⟩ = some v) (hs : ZD w w') :
  MemOk { x with fz := x2.fz } m w' ∧ Ext x { x with fz := x2.fz } := by
 have hold : ∀ b, b < w.heap.size → ∀ o, x2.fz b o = x.fz b o := by
  intro b hb o
  cases h : x2.fz b o with
  | some v =>
   rcases hx.new b o v h with e | e
   ·exact e.symm
   ·simp [Ctx.own0] at e; omega
  | none =>
   cases h' : x.fz b o with
   | none => rfl
   | some v => rw [hx.fz b o v h'] at h; simp at h
 have hle : FzLe x { x with fz := x2.fz } := fun b o v e => hx.fz b o v e
 have hext : Ext x { x with fz := x2.fz } := by
  refine ⟨rfl, fun _ _ e => e, fun _ s e => ⟨s, e, SLe.refl s⟩, hx.fz, fun b o v e => ?_⟩
  rcases hx.new b o v e with e | e
  ·exact .inl e
  ·exact .inr (hm.fresh b e)
 refine ⟨?_, hext⟩
 have h := hm.old hs
 refine ⟨h.fresh, hz, h.ml, fun b l p h1 h2 => ?_, fun b p h1 => ⟨(h.mown b p h1).1, fun o => ?_⟩, h.inj, h.sl, fun i g s h1 h2 => ?_, h.sown, h.sinj⟩
 ·obtain ⟨C, T, e1, e2⟩ := h.box b l p h1 h2
  exact ⟨C, T, e1, e2.mono hext⟩
 ·show x2.fz p o = none
  rw [hold p (hm.M_lt h1) o]; exact (hm.mown b p h1).2 o
 ·exact (h.stg i g s h1 h2).ctx hle fun p cap hb o => hold p (hm.S_lt h2 hb) o
end Go.S3
