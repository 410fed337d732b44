/-
  Soundness of the symbolic executor, part 7: what a piece of code has not written it has not changed. Conditions: none (lemmas).
-/
import Derived.Test.YtghoimllhpjkjaaGreatS3C
import Derived.LoopN
import Derived.Deep.LoopGhost
set_option linter.unusedVariables false
set_option linter.unusedSimpArgs false
namespace Go.S3
def RT.All {α : Type} (p : α → Prop) : RT α → Prop
 | .leaf a => p a
 | .br _ t e => t.All p ∧ e.All p
theorem RT.All.val {α : Type} {p : α → Prop} : ∀ {t : RT α}, t.All p → p t.val
 | .leaf _, h => h
 | .br true _ _, h => h.1.val
 | .br false _ _, h => h.2.val
theorem RT.All.mono {α : Type} {p q : α → Prop} (h : ∀ a, p a → q a) : ∀ {t : RT α}, t.All p → t.All q
 | .leaf _, k => h _ k
 | .br _ _ _, k => ⟨k.1.mono h, k.2.mono h⟩
theorem RT.All.map {α β : Type} {p : β → Prop} {f : α → β} : ∀ {t : RT α}, t.All (fun a => p (f a)) → (t.map f).All p
 | .leaf _, k => k
 | .br _ _ _, k => ⟨k.1.map, k.2.map⟩
theorem RT.All.bind {α β : Type} {p : β → Prop} {f : α → RT β} : ∀ {t : RT α}, t.All (fun a => (f a).All p) → (t.bind f).All p
 | .leaf _, k => k
 | .br _ _ _, k => ⟨k.1.bind, k.2.bind⟩
theorem RT.val_map {α β : Type} (f : α → β) : ∀ t : RT α, (t.map f).val = f t.val
 | .leaf _ => rfl
 | .br b t e => by simp only [RT.map, RT.val, RT.val_map f t, RT.val_map f e]; cases b <;> rfl
theorem RT.val_bind {α β : Type} (f : α → RT β) : ∀ t : RT α, (t.bind f).val = (f t.val).val
 | .leaf _ => rfl
 | .br b t e => by simp only [RT.bind, RT.val, RT.val_bind f t, RT.val_bind f e]; cases b <;> rfl
theorem Zgb (m n : Nat) : tbit m n = m.testBit n := by
 have h : Nat.land 1 (Nat.shiftRight m n) = (m >>> n) % 2 := by
  have : Nat.land 1 (Nat.shiftRight m n) = 1 &&& (m >>> n) := rfl
  rw [this, Nat.and_comm, Nat.and_one_is_mod]
 unfold tbit
 rw [h, Nat.testBit_eq_decide_div_mod_eq, Nat.shiftRight_eq_div_pow]
 by_cases e : m / 2 ^ n % 2 = 1
 ·simp [e]
 ·simp only [e, decide_false]
  rw [Bool.eq_false_iff]; intro h2; exact e (Nat.eq_of_beq_eq_true h2)
theorem Zef (a b i : Nat) : tbit (Nat.lor a b) i = (tbit a i || tbit b i) := by
 rw [Zgb, Zgb, Zgb]; exact Nat.testBit_or a b i
theorem ZjL (i : Nat) : tbit 0 i = false := by rw [Zgb]; simp
theorem Zdh (m n i : Nat) : tbit (setB m n) i = (Nat.beq n i || tbit m i) := by
 unfold setB
 rw [Zef, Bool.or_comm, Zgb (Nat.shiftLeft 1 n)]
 congr 1
 have : Nat.shiftLeft 1 n = 2 ^ n := by
  have : Nat.shiftLeft 1 n = 1 <<< n := rfl
  rw [this, Nat.one_shiftLeft]
 rw [this, Nat.testBit_two_pow]
 by_cases e : n = i
 ·subst e; simp
 ·simp only [e, decide_false]
  symm; rw [Bool.eq_false_iff]; intro h2; exact e (Nat.eq_of_beq_eq_true h2)
theorem ZEn (n i : Nat) : tbit (allB n) i = true ↔ i < n := by
 unfold allB
 have : Nat.shiftLeft 1 n = 2 ^ n := by
  have : Nat.shiftLeft 1 n = 1 <<< n := rfl
  rw [this, Nat.one_shiftLeft]
 rw [this, Zgb]
 have e : Nat.sub (2 ^ n) 1 = 2 ^ n - 1 := rfl
 rw [e, Nat.testBit_two_pow_sub_one]; simp
theorem Zma (l : List Nat) (t n : Nat) : memN (addN l t) n = (Nat.beq t n || memN l n) := by
 unfold addN
 split
 ·rename_i h
  by_cases e : t = n
  ·subst e; simp [h]
  ·have : Nat.beq t n = false := by rw [Bool.eq_false_iff]; intro h'; rw [Nat.beq_eq] at h'; exact e h'
   simp [this]
 ·rfl
theorem Zcs (l : List Nat) : ∀ (r : List Nat) (n : Nat), memN (ZfW l r) n = (memN l n || memN r n)
 | [], n => by simp [ZfW, memN]
 | t :: r, n => by
  rw [ZfW, Zcs (addN l t) r n, Zma, memN]
  cases Nat.beq t n <;> cases memN l n <;> simp
theorem ZtK (l : List (Nat × Nat)) (b o c d : Nat) : memP (addP l b o) c d = ((Nat.beq b c && Nat.beq o d) || memP l c d) := by
 unfold addP
 split
 ·rename_i h
  by_cases e : b = c ∧ o = d
  ·obtain ⟨rfl, rfl⟩ := e; simp [h]
  ·have : (Nat.beq b c && Nat.beq o d) = false := by
    rw [Bool.eq_false_iff]; intro h'; simp at h'; exact e h'
   simp [this]
 ·rfl
theorem Zcr (l : List (Nat × Nat)) : ∀ (r : List (Nat × Nat)) (c d : Nat), memP (Zh5 l r) c d = (memP l c d || memP r c d)
 | [], c, d => by simp [Zh5, memP]
 | (b, o) :: r, c, d => by
  rw [Zh5, Zcr (addP l b o) r c d, ZtK, memP]
  cases (Nat.beq b c && Nat.beq o d) <;> cases memP l c d <;> simp
theorem Zdb (b : Nat) : ∀ (n o : Nat) (l : List (Nat × Nat)) (c d : Nat), memP (Zuu l b o n) c d = (memP l c d || (Nat.beq b c && decide (o ≤ d ∧ d < o + n)))
 | 0, o, l, c, d => by simp [Zuu]; omega
 | n + 1, o, l, c, d => by
  rw [Zuu, Zdb b n (o + 1) _ c d, ZtK]
  by_cases h1 : Nat.beq b c = true
  ·rw [h1]
   simp only [Bool.true_and]
   rw [Bool.eq_iff_iff]
   simp only [Bool.or_eq_true, Nat.beq_eq, decide_eq_true_eq]
   constructor
   ·rintro ((rfl | h) | h)
    ·exact .inr (by omega)
    ·exact .inl h
    ·exact .inr (by omega)
   ·rintro (h | h)
    ·exact .inl (.inr h)
    ·by_cases e : o = d
     ·exact .inl (.inl e)
     ·exact .inr (by omega)
  ·simp [Bool.eq_false_iff.2 (by simpa using h1 : ¬ Nat.beq b c = true)]
structure Keep (s o : St) : Prop where
 sl : o.slots.length = s.slots.length
 slot : ∀ t, tbit o.dirty t = false → tbit s.dirty t = false ∧ nth o.slots t = nth s.slots t
 bl : s.mem.boxes.length ≤ o.mem.boxes.length
 box : ∀ b l, nth s.mem.boxes b = some l → ∃ l', nth o.mem.boxes b = some l' ∧ l'.length = l.length ∧ ∀ j, memP o.bd b j = false → memP s.bd b j = false ∧ nth l' j = nth l j
 gl : s.mem.stgs.length ≤ o.mem.stgs.length
 stg : ∀ h g, nth s.mem.stgs h = some g → ∃ g', nth o.mem.stgs h = some g' ∧ g.ver ≤ g'.ver ∧ (memN o.sd h = false → memN s.sd h = false ∧ g' = g)
theorem Keep.refl (s : St) : Keep s s := ⟨rfl, fun _ h => ⟨h, rfl⟩, Nat.le_refl _, fun _ l h => ⟨l, h, rfl, fun _ k => ⟨k, rfl⟩⟩, Nat.le_refl _, fun _ g h => ⟨g, h, Nat.le_refl _, fun k => ⟨k, rfl⟩⟩⟩
theorem Keep.trans {a b c : St} (h : Keep a b) (k : Keep b c) : Keep a c where
 sl := k.sl.trans h.sl
 slot := fun t ht => let ⟨h1, h2⟩ := k.slot t ht; let ⟨h3, h4⟩ := h.slot t h1; ⟨h3, h2.trans h4⟩
 bl := Nat.le_trans h.bl k.bl
 box := fun b l hl => by
  obtain ⟨l1, h1, h2, h3⟩ := h.box b l hl
  obtain ⟨l2, h4, h5, h6⟩ := k.box b l1 h1
  exact ⟨l2, h4, h5.trans h2, fun j hj => let ⟨q1, q2⟩ := h6 j hj; let ⟨q3, q4⟩ := h3 j q1; ⟨q3, q2.trans q4⟩⟩
 gl := Nat.le_trans h.gl k.gl
 stg := fun i g hg => by
  obtain ⟨g1, h1, h2, h3⟩ := h.stg i g hg
  obtain ⟨g2, h4, h5, h6⟩ := k.stg i g1 h1
  exact ⟨g2, h4, Nat.le_trans h2 h5, fun hj => let ⟨q1, q2⟩ := h6 hj; let ⟨q3, q4⟩ := h3 q1; ⟨q3, q2.trans q4⟩⟩
theorem Keep.put (s : St) (d : Option Nat) (v : V) : Keep s (put s d v) := by
 cases d with
 | none => exact Keep.refl s
 | some d =>
  refine ⟨by simp [S3.put, ZO], fun t ht => ?_, Nat.le_refl _, fun _ l h => ⟨l, h, rfl, fun _ k => ⟨k, rfl⟩⟩, Nat.le_refl _, fun _ g h => ⟨g, h, Nat.le_refl _, fun k => ⟨k, rfl⟩⟩⟩
  simp only [S3.put, Zdh, Bool.or_eq_false_iff] at ht
  refine ⟨ht.2, ?_⟩
  have : d ≠ t := by intro e; subst e; simp at ht
  simp only [S3.put]
  rw [ZL this]
theorem ZkY : ∀ {vs l r : List A} {o : Nat}, putN l o vs = some r → r.length = l.length
 | [], l, r, o, h => by simp [putN] at h; simp [h]
 | v :: vs, l, r, o, h => by
  simp only [putN] at h
  split at h
  ·have := ZkY h; simpa [ZO] using this
  ·simp at h
theorem ZzA : ∀ {vs l r : List A} {o : Nat}, putN l o vs = some r → ∀ j, ¬ (o ≤ j ∧ j < o + vs.length) → nth r j = nth l j
 | [], l, r, o, h, j, _ => by simp [putN] at h; simp [h]
 | v :: vs, l, r, o, h, j, hj => by
  simp only [putN] at h
  split at h
  ·simp only [List.length_cons] at hj
   have := ZzA h j (by omega)
   rw [this, Zt, Zt, ZO, List.getElem?_set_ne (by omega)]
  ·simp at h
structure KeepR (s : St) (r : Res) : Prop where
 bl : s.mem.boxes.length ≤ r.m.boxes.length
 box : ∀ b l, nth s.mem.boxes b = some l → ∃ l', nth r.m.boxes b = some l' ∧ l'.length = l.length ∧ ∀ j, memP r.bd b j = false → memP s.bd b j = false ∧ nth l' j = nth l j
 gl : s.mem.stgs.length ≤ r.m.stgs.length
 stg : ∀ h g, nth s.mem.stgs h = some g → ∃ g', nth r.m.stgs h = some g' ∧ g.ver ≤ g'.ver ∧ (memN r.sd h = false → memN s.sd h = false ∧ g' = g)
theorem KeepR.still {s : St} {r : Res} (h1 : r.m = s.mem) (h2 : r.bd = s.bd) (h3 : r.sd = s.sd) : KeepR s r := by
 refine ⟨by rw [h1]; exact Nat.le_refl _, fun b l h => ⟨l, by rw [h1]; exact h, rfl, fun j k => ⟨by rw [← h2]; exact k, rfl⟩⟩, by rw [h1]; exact Nat.le_refl _, fun i g h => ⟨g, by rw [h1]; exact h, Nat.le_refl _, fun k => ⟨by rw [← h3]; exact k, rfl⟩⟩⟩
theorem KeepR.keep {s : St} {r : Res} (h : KeepR s r) (d : Option Nat) : Keep s (putRes s d r) :=
 Keep.trans (b := { s with mem := r.m, bd := r.bd, sd := r.sd }) ⟨rfl, fun _ h => ⟨h, rfl⟩, h.bl, h.box, h.gl, h.stg⟩ (Keep.put _ _ _)
theorem KeepR.of {s s' : St} (h : Keep s s') (chk : Option Bool) (v : V) : KeepR s (ofSt s' chk v) := ⟨h.bl, h.box, h.gl, h.stg⟩
theorem KeepR.trans {s s' : St} {r : Res} (h : Keep s s') (k : KeepR s' r) : KeepR s r := by
 have := h.trans (c := { s' with mem := r.m, bd := r.bd, sd := r.sd }) ⟨rfl, fun _ h => ⟨h, rfl⟩, k.bl, k.box, k.gl, k.stg⟩
 exact ⟨this.bl, this.box, this.gl, this.stg⟩
theorem ZxD (s : St) (l : List A) : KeepR s (Zg7 s l) := by
 refine ⟨by simp [Zg7], fun b l' h => ⟨l', Zbr h, rfl, fun j k => ⟨k, rfl⟩⟩, Nat.le_refl _, fun _ g h => ⟨g, h, Nat.le_refl _, fun k => ⟨k, rfl⟩⟩⟩
theorem Zgl (s : St) (g : Stg) (chk : Option Bool) : KeepR s (Zg6 s g chk) := by
 refine ⟨Nat.le_refl _, fun b l' h => ⟨l', h, rfl, fun j k => ⟨k, rfl⟩⟩, by simp [Zg6], fun _ g h => ⟨g, Zbr h, Nat.le_refl _, fun k => ⟨k, rfl⟩⟩⟩
theorem Zgc {s : St} {h : Nat} {g g' : Stg} (hg : nth s.mem.stgs h = some g) (hv : g.ver ≤ g'.ver) (chk : Option Bool) (v : V) :
  KeepR s { chk := chk, v := v, m := { s.mem with stgs := setN s.mem.stgs h g' }, bd := s.bd, sd := addN s.sd h } := by
 refine ⟨Nat.le_refl _, fun b l' h => ⟨l', h, rfl, fun j k => ⟨k, rfl⟩⟩, by simp [ZO], fun i g1 h1 => ?_⟩
 by_cases e : h = i
 ·subst e
  have : g1 = g := by rw [hg] at h1; simpa using h1.symm
  subst this
  exact ⟨g', ZK hg, hv, fun k => by rw [Zma] at k; simp at k⟩
 ·refine ⟨g1, by show nth (setN _ _ _) _ = _; rw [ZL e]; exact h1, Nat.le_refl _, fun k => ?_⟩
  rw [Zma, Bool.or_eq_false_iff] at k
  exact ⟨k.2, rfl⟩
theorem Zfs {s s' : St} {a a' : A} (h : Zaq s a = some (a', s')) : Keep s s' := by
 cases a with
 | tip hh ver =>
  simp only [Zaq] at h
  split at h
  ·rename_i g hg
   split at h
   ·simp only [oinj, pinj] at h
    obtain ⟨_, rfl⟩ := h
    exact Keep.refl s
   ·simp only [oinj, pinj] at h
    obtain ⟨_, rfl⟩ := h
    have := Zgc (g' := { g with fzn := true, ffz := true }) (ZV hg).1 (Nat.le_refl _) none (.w .junk)
    exact ⟨rfl, fun _ h => ⟨h, rfl⟩, this.bl, this.box, this.gl, this.stg⟩
  ·simp at h
 | sp _ _ _ _ => simp [Zaq] at h
 | _ => simp only [Zaq, oinj, pinj] at h; obtain ⟨_, rfl⟩ := h; exact Keep.refl s
theorem Zfq : ∀ {l l' : List A} {s s' : St}, Zap s l = some (l', s') → Keep s s'
 | [], l', s, s', h => by
  simp only [Zap, oinj, pinj] at h
  obtain ⟨_, rfl⟩ := h
  exact Keep.refl s
 | a :: l, l', s, s', h => by
  simp only [Zap] at h
  split at h
  ·rename_i b s1 h1
   split at h
   ·rename_i r s2 h2
    simp only [oinj, pinj] at h
    obtain ⟨_, rfl⟩ := h
    exact (Zfs h1).trans (Zfq h2)
   ·simp at h
  ·simp at h
theorem Zuf {s s' : St} {v v' : V} (h : ZaU s v = some (v', s')) : Keep s s' := by
 cases v with
 | w a =>
  simp only [ZaU] at h
  split at h
  ·rename_i b s1 h1
   simp only [oinj, pinj] at h
   obtain ⟨_, rfl⟩ := h
   cases a with
   | one a =>
    simp only [Zaz] at h1
    split at h1
    ·rename_i c s2 h2
     simp only [oinj, pinj] at h1
     obtain ⟨_, rfl⟩ := h1
     exact Zfs h2
    ·simp at h1
   | agg l =>
    simp only [Zaz] at h1
    split at h1
    ·rename_i c s2 h2
     simp only [oinj, pinj] at h1
     obtain ⟨_, rfl⟩ := h1
     exact Zfq h2
    ·simp at h1
   | junk =>
    simp only [Zaz, oinj, pinj] at h1
    obtain ⟨_, rfl⟩ := h1
    exact Keep.refl s
  ·simp at h
 | tup l =>
  simp only [ZaU, oinj, pinj] at h
  obtain ⟨_, rfl⟩ := h
  exact Keep.refl s
theorem Zc8 : ∀ {l l' : List V} {s s' : St}, Z8 s l = some (l', s') → Keep s s'
 | [], l', s, s', h => by
  simp only [Z8, oinj, pinj] at h
  obtain ⟨_, rfl⟩ := h
  exact Keep.refl s
 | a :: l, l', s, s', h => by
  simp only [Z8] at h
  split at h
  ·rename_i b s1 h1
   split at h
   ·rename_i r s2 h2
    simp only [oinj, pinj] at h
    obtain ⟨_, rfl⟩ := h
    exact (Zuf h1).trans (Zc8 h2)
   ·simp at h
  ·simp at h
theorem Zfr : ∀ {l l' : List (Nat × Option (List A))} {s s' : St}, Zbb s l = some (l', s') → Keep s s'
 | [], l', s, s', h => by
  simp only [Zbb, oinj, pinj] at h
  obtain ⟨_, rfl⟩ := h
  exact Keep.refl s
 | (i, some a) :: l, l', s, s', h => by
  simp only [Zbb] at h
  split at h
  ·rename_i b s1 h1
   split at h
   ·rename_i r s2 h2
    simp only [oinj, pinj] at h
    obtain ⟨_, rfl⟩ := h
    exact (Zfq h1).trans (Zfr h2)
   ·simp at h
  ·simp at h
 | (_, none) :: _, _, _, _, h => by simp [Zbb] at h
section
variable {P : Program} {s : St} {r : Res}
theorem Zco {a : A} (h : Za0 s a = some r) : KeepR s r := by simp only [Za0, oinj] at h; subst h; exact .still rfl rfl rfl
theorem Zsa {a : V} (h : valR s a = some r) : KeepR s r := by simp only [valR, oinj] at h; subst h; exact .still rfl rfl rfl
theorem Zyh {t : TypeId} {l : List A} {i : A} (h : Zt6 P s t l i = some r) : KeepR s r := by
 unfold Zt6 at h
 repeat' split at h
 all_goals first
  | exact Zsa h
  | (simp at h; done)
  | (simp only [oinj] at h; subst h; exact .still rfl rfl rfl)
theorem Zdy {t : TypeId} {x i : A} (h : ZbF P s t x i = some r) : KeepR s r := by
 unfold ZbF at h
 repeat' split at h
 all_goals first
  | exact Zco h
  | (simp at h; done)
  | (simp only [oinj] at h; subst h; exact .still rfl rfl rfl)
theorem ZuJ {t : TypeId} {x : A} {lo hi mx : Option Operand} (h : sliceB P s t x lo hi mx = some r) : KeepR s r := by
 unfold sliceB at h
 repeat' split at h
 all_goals first
  | (simp at h; done)
  | (simp only [oinj] at h; subst h; exact .still rfl rfl rfl)
theorem ZuK {t : TypeId} {x : A} {lo hi mx : Option Operand} (h : Znh P s t x lo hi mx = some r) : KeepR s r := by
 unfold Znh at h
 split at h
 ·rename_i x' s' hf
  split at h
  ·simp at h
  ·exact KeepR.trans (Zfs hf) (ZuJ h)
 ·simp at h
theorem Zi1 {t : TypeId} {n : Nat} {ps : List (Nat × Option (List A))} (h : ZcD P s t n ps = some r) : KeepR s r := by
 unfold ZcD at h
 repeat' split at h
 all_goals first
  | (simp at h; done)
  | (simp only [oinj] at h; subst h; exact .still rfl rfl rfl)
theorem Zi0 {t : TypeId} {n : Nat} {ps : List (Nat × Option (List A))} (h : ZcC P s t n ps = some r) : KeepR s r := by
 unfold ZcC at h
 repeat' split at h
 all_goals first
  | (simp at h; done)
  | (simp only [oinj] at h; subst h; exact Zgl _ _ _)
theorem Zmb {t : TypeId} {l c : A} (h : Zd7 P s t l c = some r) : KeepR s r := by
 unfold Zd7 at h
 repeat' split at h
 all_goals first
  | (simp at h; done)
  | (simp only [oinj] at h; subst h; exact Zgl _ _ _)
theorem Zus {t t' : TypeId} {x y : A} (h : Zip P s t t' x y = some r) : KeepR s r := by
 unfold Zip at h
 repeat' split at h
 all_goals first
  | (simp at h; done)
  | (simp only [oinj] at h; subst h; exact Zgl _ _ _)
  | (simp only [oinj] at h; subst h; exact .still rfl rfl rfl)
  | skip
 ·rename_i g hg _ _
  simp only [oinj] at h; subst h
  obtain ⟨h1, h2⟩ := ZV hg
  exact Zgc h1 (by simp only; omega) _ _
theorem ZIi {t : TypeId} {v : V} (h : lenA P s t v = some r) : KeepR s r := by
 unfold lenA at h
 repeat' split at h
 all_goals first
  | exact Zco h
  | (simp at h; done)
theorem Zr0 {t t' : TypeId} {x : A} (h : Zhs P s t t' x = some r) : KeepR s r := by
 unfold Zhs at h
 repeat' split at h
 all_goals first
  | exact Zco h
  | (simp at h; done)
theorem ZuE {t : TypeId} {p : A} {l : List A} (h : Zsn P s t p l = some r) : KeepR s r := by
 unfold Zsn at h
 split at h
 ·simp at h
 ·rename_i n hn
  split at h
  ·simp at h
  ·rename_i hbeq
   simp only [Nat.beq_eq, Zak] at hbeq
   split at h
   ·rename_i b off
    split at h
    ·simp at h
    ·rename_i c hcb
     split at h
     ·simp at h
     ·rename_i c' hput
      simp only [oinj] at h; subst h
      refine ⟨by simp [ZO], fun b' l' hb' => ?_, Nat.le_refl _, fun _ g h => ⟨g, h, Nat.le_refl _, fun k => ⟨k, rfl⟩⟩⟩
      by_cases e : b = b'
      ·subst e
       have : l' = c := by rw [hcb] at hb'; simpa using hb'.symm
       subst this
       refine ⟨c', ZK hcb, ZkY hput, fun j hj => ?_⟩
       rw [Zdb, Bool.or_eq_false_iff] at hj
       refine ⟨hj.1, ZzA hput j ?_⟩
       have := hj.2
       simp at this
       rw [← hbeq]; omega
      ·refine ⟨l', by show nth (setN _ _ _) _ = _; rw [ZL e]; exact hb', rfl, fun j hj => ?_⟩
       rw [Zdb, Bool.or_eq_false_iff] at hj
       exact ⟨hj.1, rfl⟩
   ·rename_i hh v i off
    split at h
    ·simp at h
    ·rename_i g hg
     split at h
     ·simp at h
     ·split at h
      ·simp at h
      ·split at h
       ·simp at h
       ·simp only [oinj] at h; subst h
        refine Zgc (ZV hg).1 ?_ _ _
        exact Nat.le_refl _
   ·simp at h
theorem Zr3 {b : Builtin} {ts : List TypeId} {vs : List V} (h : ZcF P s b ts vs = some r) : KeepR s r := by
 unfold ZcF at h
 split at h
 ·split at h
  ·exact Zco h
  ·simp at h
 ·split at h
  ·exact Zco h
  ·simp at h
 ·exact ZIi h
 ·exact Zus h
 ·simp at h
end
theorem ZIX {E : Env} {s : St} {op : Op} {r : Res} (h : evOp E s op = some r) : KeepR s r := by
 unfold evOp at h
 repeat' split at h
 all_goals first
  | exact Zco h
  | exact Zsa h
  | (simp at h; done)
  | (rw [Option.bind_eq_some_iff] at h; obtain ⟨z, _, h⟩ := h; exact Zco h)
  | (rw [Option.map_eq_some_iff] at h; obtain ⟨z, _, rfl⟩ := h; exact ZxD s z)
  | exact Zyh h
  | exact Zdy h
  | exact ZuK h
  | exact Zmb h
  | exact Zr0 h
  | exact ZuE h
  | (simp only [oinj] at h; subst h; exact .still rfl rfl rfl)
  | skip
 ·unfold Zex at h
  split at h
  ·rename_i ps s' hf
   exact KeepR.trans (Zfr hf) (Zi0 h)
  ·simp at h
 ·unfold ZdC at h
  split at h
  ·rename_i ps s' hf
   exact KeepR.trans (Zfr hf) (Zi1 h)
  ·simp at h
structure KeepC (m : Mem) (r : Res) : Prop where
 bl : m.boxes.length ≤ r.m.boxes.length
 box : ∀ b l, nth m.boxes b = some l → ∃ l', nth r.m.boxes b = some l' ∧ l'.length = l.length ∧ ∀ j, memP r.bd b j = false → nth l' j = nth l j
 gl : m.stgs.length ≤ r.m.stgs.length
 stg : ∀ h g, nth m.stgs h = some g → ∃ g', nth r.m.stgs h = some g' ∧ g.ver ≤ g'.ver ∧ (memN r.sd h = false → g' = g)
theorem KeepC.keepR {s : St} {r : Res} (h : KeepC s.mem r) : KeepR s (Zr2 s r) := by
 refine ⟨h.bl, fun b l hl => ?_, h.gl, fun i g hg => ?_⟩
 ·obtain ⟨l', h1, h2, h3⟩ := h.box b l hl
  refine ⟨l', h1, h2, fun j hj => ?_⟩
  simp only [Zr2, Zcr, Bool.or_eq_false_iff] at hj
  exact ⟨hj.1, h3 j hj.2⟩
 ·obtain ⟨g', h1, h2, h3⟩ := h.stg i g hg
  refine ⟨g', h1, h2, fun hj => ?_⟩
  simp only [Zr2, Zcs, Bool.or_eq_false_iff] at hj
  exact ⟨hj.1, h3 hj.2⟩
abbrev AllK (s : St) (t : RT Out) : Prop := t.All (fun o => Keep s o.s)
theorem AllK.trans {a b : St} (h : Keep a b) {t : RT Out} (k : AllK b t) : AllK a t := k.mono fun _ q => h.trans q
theorem Zai (s : St) : AllK s (ZeS s) := Keep.refl s
theorem Zfu {s : St} {c : Option Bool} {t : RT Out} (h : AllK s t) : AllK s (chkT c s t) := by
 cases c with
 | none => exact h
 | some b => exact ⟨h, Keep.refl s⟩
structure RelH (x0 : Ctx) (w0 : World) (x : Ctx) (s : St) (a : Act) (w : World) : Prop where
 r : Rel x s a w
 e : Ext x0 x
 t : Step x0 w0 w
structure ExtM (x x' : Ctx) : Prop where
 M : ∀ b p, nth x.M b = some p → nth x'.M b = some p
 S : ∀ h s, nth x.S h = some s → ∃ s', nth x'.S h = some s' ∧ SLe s s'
theorem ExtM.refl (x : Ctx) : ExtM x x := ⟨fun _ _ h => h, fun _ s h => ⟨s, h, .refl s⟩⟩
theorem ExtM.trans {x y z : Ctx} (h : ExtM x y) (k : ExtM y z) : ExtM x z :=
 ⟨fun b p e => k.M b p (h.M b p e), fun i s e => let ⟨s1, e1, l1⟩ := h.S i s e; let ⟨s2, e2, l2⟩ := k.S i s1 e1; ⟨s2, e2, l1.trans l2⟩⟩
theorem Ext.extM {x x' : Ctx} (h : Ext x x') : ExtM x x' := ⟨h.M, h.S⟩
def QK (Q : Exit → Act → World → Prop) : K → Act → World → Prop
 | .normal, a, w => Q .normal a w
 | .exit i, a, w => Q (.exit i) a w
 | .ret, a, w => Q .ret a w
 | .stop, _, _ => False
def Hold (x0 : Ctx) (w0 : World) (x : Ctx) (Q : Exit → Act → World → Prop) (o : Out) : Prop :=
 ∀ x' a' w', RelH x0 w0 x' o.s a' w' → ExtM x x' → QK Q o.k a' w'
structure Back (x x' x'' : Ctx) : Prop where
 a : ExtM x x'
 b : ExtM x x''
 S : ∀ h s s', nth x.S h = some s → nth x'.S h = some s' → ∃ s'', nth x''.S h = some s'' ∧ s'.ver ≤ s''.ver ∧ s''.blk = s'.blk ∧ s''.n = s'.n ∧ s''.w = s'.w ∧ s''.na = s'.na
 fz : x''.fz = x'.fz
 own : x''.own = x'.own
theorem Back.bare {x x' x'' : Ctx} (h : Back x x' x'') : x''.bare = x'.bare := by simp only [Ctx.bare, h.fz, h.own]
theorem RA.cut {x : Ctx} {a : A} {v0 : Value} (h : RA x a v0) : ∀ {x' x'' : Ctx} {v : Value}, Back x x' x'' → RA x' a v → RA x'' a v := by
 induction h with
 | bool x l b => intro x' x'' v _ k; cases k; exact .bool _ _ _
 | int x l k n h => intro x' x'' v _ k; cases k; exact .int _ _ _ _ h
 | str x s => intro x' x'' v _ k; cases k; exact .str _ _
 | loc x b o p h =>
  intro x' x'' v hb k
  cases k with
  | loc _ _ _ q hq =>
   have : q = p := by rw [hb.a.M b p h] at hq; simpa using hq.symm
   subst this
   exact .loc _ _ _ _ (hb.b.M b q h)
 | nilp x => intro x' x'' v _ k; cases k; exact .nilp _
 | nilsl x => intro x' x'' v _ k; cases k; exact .nilsl _
 | lst0 x r lit full nn l a cap h hf hn hz =>
  intro x' x'' v hb k
  exact k.plain (fun b o u e => by rw [hb.fz]; exact e) rfl
 | lst x r lit full nn l p o cap c h hf hcap hml hz hr ih =>
  intro x' x'' v hb k
  exact k.plain (fun b o u e => by rw [hb.fz]; exact e) rfl
 | tip x h ver s v hs hv hval hat =>
  intro x' x'' u hb k
  cases k with
  | tip _ _ _ s' _ hs' hv' hval' hat' =>
   obtain ⟨s'', e1, e2, e3, e4, e5, e6⟩ := hb.S h s s' hs hs'
   obtain ⟨s1, f1, f2⟩ := hb.a.S h s hs
   have : s1 = s' := by rw [hs'] at f1; simpa using f1.symm
   subst this
   refine .tip _ _ _ s'' _ e1 (by omega) (fun e => ?_) hat'
   have h1 := f2.ver
   rw [hval' (by omega)]
   simp only [tipVal, e3, e4, e6]
 | fp x l p o c hf hr ih =>
  intro x' x'' v hb k
  cases k with
  | fp _ _ p o c hf hr => exact .fp _ _ _ _ c (by rw [hb.fz]; exact hf) (by rw [hb.bare]; exact hr)
 | sp x h ver i o s v hs hv hval hat =>
  intro x' x'' u hb k
  cases k with
  | sp _ _ _ _ _ s' _ hs' hv' hval' hat' =>
   obtain ⟨s'', e1, e2, e3, e4, e5, e6⟩ := hb.S h s s' hs hs'
   obtain ⟨s1, f1, f2⟩ := hb.a.S h s hs
   have : s1 = s' := by rw [hs'] at f1; simpa using f1.symm
   subst this
   refine .sp _ _ _ _ _ s'' _ e1 (by omega) (fun e => ?_) hat'
   have h1 := f2.ver
   obtain ⟨p, cap, q1, q2, q3, q4⟩ := hval' (by omega)
   exact ⟨p, cap, by rw [e3]; exact q1, q2, by rw [e4]; exact q3, by rw [e5]; exact q4⟩
 | clo x f caps cs c hl hc hr ih =>
  intro x' x'' v hb k
  cases k with
  | clo _ _ _ cs' c' hl' hc' hr' => exact .clo _ _ _ _ c' hl' hc' (fun j a ha => ih j a ha hb (hr' j a ha))
 | raw x v h => intro x' x'' u _ k; cases k; exact .raw _ _ h
 | junk x v h => intro x' x'' u _ k; exact .junk _ _ k.atomic
theorem RL.cut {x x' x'' : Ctx} (hb : Back x x' x'') : ∀ {l : List A} {u v : List Value}, RL x l u → RL x' l v → RL x'' l v
 | [], [], [], _, _ => trivial
 | _ :: _, _ :: _, _ :: _, h, k => ⟨h.1.cut hb k.1, RL.cut hb h.2 k.2⟩
 | [], _ :: _, _, h, _ => h.elim
 | [], [], _ :: _, _, k => k.elim
 | _ :: _, [], _, h, _ => h.elim
 | _ :: _, _ :: _, [], _, k => k.elim
theorem RW.cut {x x' x'' : Ctx} (hb : Back x x' x'') {l : W} {u v : Value} (h : RW x l u) (k : RW x' l v) : RW x'' l v := by
 cases l with
 | one a => exact RA.cut h hb k
 | agg l => obtain ⟨C, _, h⟩ := h; obtain ⟨D, e, k⟩ := k; exact ⟨D, e, h.cut hb k⟩
 | junk => trivial
theorem RWs.cut {x x' x'' : Ctx} (hb : Back x x' x'') : ∀ {l : List W} {u v : List Value}, RWs x l u → RWs x' l v → RWs x'' l v
 | [], [], [], _, _ => trivial
 | _ :: _, _ :: _, _ :: _, h, k => ⟨RW.cut hb h.1 k.1, RWs.cut hb h.2 k.2⟩
 | [], _ :: _, _, h, _ => h.elim
 | [], [], _ :: _, _, k => k.elim
 | _ :: _, [], _, h, _ => h.elim
 | _ :: _, _ :: _, [], _, k => k.elim
theorem RV.cut {x x' x'' : Ctx} (hb : Back x x' x'') {l : V} {u v : Value} (h : RV x l u) (k : RV x' l v) : RV x'' l v := by
 cases l with
 | w a => exact RW.cut hb h k
 | tup l => obtain ⟨C, _, h⟩ := h; obtain ⟨D, e, k⟩ := k; exact ⟨D, e, h.cut hb k⟩
theorem Zau {α : Type} {n : Nat} {l : List α} {b : Nat} (h : b < n) : nth (ZaK n l) b = nth l b := by
 rw [Zeb, Zt, Zt, List.getElem?_take, if_pos h]
theorem Zbx {α : Type} {n : Nat} {l : List α} {b : Nat} {a : α} (h : nth (ZaK n l) b = some a) : b < n ∧ nth l b = some a := by
 have h1 := Z6 h
 rw [Zeb] at h1
 rw [List.length_take] at h1
 have h2 : b < n := by omega
 exact ⟨h2, by rw [← Zau h2]; exact h⟩
theorem ZaO {α : Type} {n : Nat} {l : List α} (h : n ≤ l.length) : (ZaK n l).length = n := by
 rw [Zeb, List.length_take]; omega
theorem Zdt {t : Nat} {ts : List Nat} {i : Nat} (h : memN (t :: ts) i = false) : t ≠ i ∧ memN ts i = false := by
 simp only [memN, Bool.or_eq_false_iff] at h
 exact ⟨fun e => by subst e; simp at h, h.2⟩
theorem ZcB {α : Type} {a : α} {o : Option (List α)} {r : List α} (h : Zun a o = some r) : ∃ l, o = some l ∧ r = a :: l := by
 cases o with
 | none => simp [Zun] at h
 | some l => simp only [Zun, oinj] at h; exact ⟨l, rfl, h.symm⟩
theorem ZcK {c : Bool} {tm : Nat → Nat → Nat → Option Nat} {nb : Nat} {nm : Nm} {mk : Nat} : ∀ {l y r : List V} {i : Nat}, ZcW c tm nb nm mk i y l = some r → r.length = l.length ∧ ∀ j, tbit mk (i + j) = false → nth r j = nth l j
 | [], y, r, i, h => by
  simp only [ZcW, oinj] at h; subst h
  exact ⟨rfl, fun _ _ => rfl⟩
 | a :: l, [], r, i, h => by
  simp only [ZcW] at h
  split at h
  ·obtain ⟨r', h1, rfl⟩ := ZcB h
   obtain ⟨q1, q2⟩ := ZcK h1
   refine ⟨by simp [q1], fun j hj => ?_⟩
   cases j with
   | zero => rfl
   | succ j => exact q2 j (by rw [← hj]; congr 1; omega)
  ·simp at h
 | a :: l, b :: y, r, i, h => by
  simp only [ZcW] at h
  split at h
  ·obtain ⟨r', h1, rfl⟩ := ZcB h
   obtain ⟨q1, q2⟩ := ZcK h1
   refine ⟨by simp [q1], fun j hj => ?_⟩
   cases j with
   | zero => rfl
   | succ j => exact q2 j (by rw [← hj]; congr 1; omega)
  ·rename_i hm
   have fin : ∀ z, Zun z (ZcW c tm nb nm mk (i + 1) y l) = some r → r.length = (a :: l).length ∧ ∀ j, tbit mk (i + j) = false → nth r j = nth (a :: l) j := by
    intro z hz
    obtain ⟨r', h1, rfl⟩ := ZcB hz
    obtain ⟨q1, q2⟩ := ZcK h1
    refine ⟨by simp [q1], fun j hj => ?_⟩
    cases j with
    | zero => rw [Nat.add_zero, hm] at hj; simp at hj
    | succ j => exact q2 j (by rw [← hj]; congr 1; omega)
   split at h
   ·exact fin _ h
   ·split at h
    ·exact fin _ h
    ·simp at h
theorem Zmf {nb : Nat} {nm : Nm} {tm : Nat → Nat → Nat → Option Nat} {c : Bool} {mk : Nat} {x x' : Ctx} (hx : Cut nb tm c x x') (u : Nat → Value) :
  ∀ (l y : List V) (i : Nat) (r : List V), ZcW c tm nb nm mk i y l = some r → (∀ j v, tbit mk (i + j) = true → (cond c (nth l j) (nth y j)) = some v → RV x v (u (i + j))) →
   ∀ j v, tbit mk (i + j) = true → nth r j = some v → RV x' v (u (i + j))
 | [], y, i, r, h, _, j, v, hj, hv => by
  simp only [ZcW, oinj] at h; subst h
  simp [Zy] at hv
 | a :: l, [], i, r, h, hl, j, v, hj, hv => by
  simp only [ZcW] at h
  split at h
  ·rename_i hm
   obtain ⟨r', h1, rfl⟩ := ZcB h
   cases j with
   | zero => rw [Nat.add_zero, hm] at hj; simp at hj
   | succ j =>
    have e : i + (j + 1) = i + 1 + j := by omega
    rw [e] at hj ⊢
    refine Zmf hx u l [] (i + 1) r' h1 (fun j v hj hv => ?_) j v hj hv
    have := hl (j + 1) v (by rw [← hj]; congr 1; omega) (by cases c with | true => exact hv | false => exact hv)
    rwa [show i + (j + 1) = i + 1 + j by omega] at this
  ·simp at h
 | a :: l, b :: y, i, r, h, hl, j, v, hj, hv => by
  simp only [ZcW] at h
  have rest : ∀ r', ZcW c tm nb nm mk (i + 1) y l = some r' → ∀ j v, tbit mk (i + (j + 1)) = true → nth r' j = some v → RV x' v (u (i + (j + 1))) := by
   intro r' h1 j v hj hv
   have e : i + (j + 1) = i + 1 + j := by omega
   rw [e] at hj ⊢
   refine Zmf hx u l y (i + 1) r' h1 (fun j v hj hv => ?_) j v hj hv
   have := hl (j + 1) v (by rw [← hj]; congr 1; omega) hv
   rwa [show i + (j + 1) = i + 1 + j by omega] at this
  split at h
  ·rename_i hm
   obtain ⟨r', h1, rfl⟩ := ZcB h
   cases j with
   | zero => rw [Nat.add_zero, hm] at hj; simp at hj
   | succ j => exact rest r' h1 j v hj hv
  ·rename_i hm
   split at h
   ·obtain ⟨r', h1, rfl⟩ := ZcB h
    cases j with
    | zero => simp only [nth, oinj] at hv; subst hv; trivial
    | succ j => exact rest r' h1 j v hj hv
   ·split at h
    ·rename_i z hz
     obtain ⟨r', h1, rfl⟩ := ZcB h
     cases j with
     | zero =>
      simp only [nth, oinj] at hv; subst hv
      refine mV_ok hx hz (hl 0 _ (by rw [Nat.add_zero]; exact hm) ?_)
      cases c <;> rfl
     | succ j => exact rest r' h1 j v hj hv
    ·simp at h
theorem Zds {b o : Nat} {ts : List (Nat × Nat)} {c j : Nat} (h : memP ((b, o) :: ts) c j = false) : ¬ (b = c ∧ o = j) ∧ memP ts c j = false := by
 simp only [memP, Bool.or_eq_false_iff] at h
 exact ⟨fun e => by obtain ⟨rfl, rfl⟩ := e; simp at h, h.2⟩
theorem ZcL {c : Bool} {tm : Nat → Nat → Nat → Option Nat} {nb : Nat} {y : List (List A)} : ∀ {ts : List (Nat × Nat)} {l r : List (List A)}, Zhe c tm nb y ts l = some r → r.length = l.length ∧
  ∀ b q, nth l b = some q → ∃ q', nth r b = some q' ∧ q'.length = q.length ∧ ∀ j, memP ts b j = false → nth q' j = nth q j
 | [], l, r, h => by
  simp only [Zhe, oinj] at h; subst h
  exact ⟨rfl, fun b q hq => ⟨q, hq, rfl, fun j _ => rfl⟩⟩
 | (b, o) :: ts, l, r, h => by
  simp only [Zhe] at h
  split at h
  ·obtain ⟨h1, h2⟩ := ZcL h
   refine ⟨h1, fun b' q hq => ?_⟩
   obtain ⟨q', e1, e2, e3⟩ := h2 b' q hq
   exact ⟨q', e1, e2, fun j hj => e3 j (Zds hj).2⟩
  ·split at h
   ·rename_i q0 q1 hq0 hq1
    split at h
    ·rename_i a a' ha ha'
     split at h
     ·rename_i z hz
      obtain ⟨h1, h2⟩ := ZcL h
      refine ⟨by simpa [ZO] using h1, fun b' q hq => ?_⟩
      by_cases e : b = b'
      ·subst e
       have : q = q0 := by rw [hq0] at hq; simpa using hq.symm
       subst this
       obtain ⟨q', e1, e2, e3⟩ := h2 b (setN q o z) (ZK hq0)
       refine ⟨q', e1, by simpa [ZO] using e2, fun j hj => ?_⟩
       obtain ⟨k1, k2⟩ := Zds hj
       rw [e3 j k2]
       exact ZL (fun e => k1 ⟨rfl, e⟩)
      ·obtain ⟨q', e1, e2, e3⟩ := h2 b' q (by rw [ZL e]; exact hq)
       exact ⟨q', e1, e2, fun j hj => e3 j (Zds hj).2⟩
     ·simp at h
    ·simp at h
   ·simp at h
theorem Zmh {nb : Nat} {tm : Nat → Nat → Nat → Option Nat} {c : Bool} {x x' : Ctx} (hx : Cut nb tm c x x') {y : List (List A)} (u : Nat → Nat → Value) :
  ∀ (ts : List (Nat × Nat)) (l r : List (List A)), Zhe c tm nb y ts l = some r → (∀ b q j a, b < nb → memP ts b j = true → cond c (nth l b) (nth y b) = some q → nth q j = some a → RA x a (u b j)) →
   ∀ b q j a, b < nb → memP ts b j = true → nth r b = some q → nth q j = some a → RA x' a (u b j)
 | [], l, r, h, _, b, q, j, a, _, hm, _, _ => by simp [memP] at hm
 | (b, o) :: ts, l, r, h, hl, b', q, j, a, hb', hm, hq, ha => by
  simp only [Zhe] at h
  split at h
  ·rename_i hsk
   refine Zmh hx u ts l r h (fun b q j a h1 h2 h3 h4 => hl b q j a h1 (by simp [memP, h2]) h3 h4) b' q j a hb' ?_ hq ha
   simp only [memP, Bool.or_eq_true, Bool.and_eq_true, Nat.beq_eq] at hm
   rcases hm with ⟨rfl, rfl⟩ | hm
   ·simp only [Bool.or_eq_true, Bool.not_eq_true'] at hsk
    rcases hsk with h1 | h1
    ·have : Nat.blt b nb = true := by rw [Nat.blt_eq]; exact hb'
     rw [this] at h1; simp at h1
    ·exact h1
   ·exact hm
  ·rename_i hsk
   simp only [Bool.or_eq_false_iff, Bool.not_eq_false'] at hsk
   obtain ⟨hlt, hno⟩ := hsk
   split at h
   ·rename_i q0 q1 hq0 hq1
    split at h
    ·rename_i a0 a1 ha0 ha1
     split at h
     ·rename_i z hz
      by_cases hm2 : memP ts b' j = true
      ·refine Zmh hx u ts _ r h (fun b2 q2 j2 a2 h1 h2 h3 h4 => ?_) b' q j a hb' hm2 hq ha
       have hne : ¬ (b = b2 ∧ o = j2) := fun e => by obtain ⟨rfl, rfl⟩ := e; rw [hno] at h2; simp at h2
       cases c with
       | false => exact hl b2 q2 j2 a2 h1 (by simp [memP, h2]) h3 h4
       | true =>
        have h3 : nth (setN l b (setN q0 o z)) b2 = some q2 := h3
        by_cases e : b = b2
        ·subst e
         rw [ZK hq0] at h3
         simp only [oinj] at h3; subst h3
         rw [ZL (fun e => hne ⟨rfl, e⟩)] at h4
         exact hl b q0 j2 a2 h1 (by simp [memP, h2]) hq0 h4
        ·rw [ZL e] at h3
         exact hl b2 q2 j2 a2 h1 (by simp [memP, h2]) h3 h4
      ·have hm2' : memP ts b' j = false := by simpa using hm2
       have hbo : b = b' ∧ o = j := by
        simp only [memP, hm2', Bool.or_false, Bool.and_eq_true, Nat.beq_eq] at hm; exact hm
       obtain ⟨rfl, rfl⟩ := hbo
       obtain ⟨q', e1, e2, e3⟩ := (ZcL h).2 b (setN q0 o z) (ZK hq0)
       have : q' = q := by rw [hq] at e1; simpa using e1.symm
       subst this
       rw [e3 o hm2', ZK ha0] at ha
       simp only [oinj] at ha; subst ha
       refine ZO3 hx hz ?_
       cases c with
       | false => exact hl b q1 o a1 hb' (by simp [memP]) hq1 ha1
       | true => exact hl b q0 o a0 hb' (by simp [memP]) hq0 ha0
     ·simp at h
    ·simp at h
   ·simp at h
structure Rep (gb g : Stg) : Prop where
 rl : (⟨g.r, g.l⟩ : (r : R) × List r.den) = ⟨gb.r, gb.l⟩
 T : g.T = gb.T
 ver : gb.ver ≤ g.ver
 fzn : g.fzn = false → gb.fzn = false
 ffz : g.ffz = true → gb.ffz = true
 ub : 0 < g.ub → 0 < gb.ub ∧ gb.ub ≤ g.ub
theorem Rep.refl (g : Stg) : Rep g g := ⟨rfl, rfl, Nat.le_refl _, fun h => h, fun h => h, fun h => ⟨h, Nat.le_refl _⟩⟩
theorem StgOk.rep {x : Ctx} {gb g : Stg} {s : SI} {w : World} (h : StgOk x gb s w) (hr : Rep gb g) : StgOk x g { s with ver := g.ver } w := by
 obtain ⟨r, T, l, ver, fzn, ffz, lit, ub⟩ := g
 obtain ⟨r', T', l', ver', fzn', ffz', lit', ub'⟩ := gb
 obtain ⟨h1, h2, h3, h4, h5, h6⟩ := hr
 simp only at h1 h2 h3 h4 h5 h6
 cases h1
 subst h2
 exact ⟨rfl, h.n, h.wd, h.nil, h.row, fun e => h.fzn (h4 e), fun e => h.ffz (h5 e), fun e => Nat.lt_of_lt_of_le (h.ub (h6 e).1) (h6 e).2⟩
theorem ZrA {c : Bool} {a b g : Stg} (h : mStg c a b = some g) : Rep (cond c a b) g := by
 unfold mStg at h
 split at h
 ·rename_i e he hT
  simp only [Nat.beq_eq] at hT
  simp only [oinj] at h; subst h
  have hver : (cond c a b).ver ≤ (match Nat.beq a.ver b.ver with | true => a.ver | false => Nat.max a.ver b.ver + 1) := by
   split
   ·rename_i hb
    simp only [Nat.beq_eq] at hb
    cases c
    ·exact Nat.le_of_eq hb.symm
    ·exact Nat.le_refl _
   ·have h1 : a.ver ≤ Nat.max a.ver b.ver := Nat.le_max_left _ _
    have h2 : b.ver ≤ Nat.max a.ver b.ver := Nat.le_max_right _ _
    cases c
    ·exact Nat.le_succ_of_le h2
    ·exact Nat.le_succ_of_le h1
  have hub : ∀ m n : Nat, 0 < (match Nat.blt 0 m && Nat.blt 0 n with | true => (match Nat.ble m n with | true => n | false => m) | false => 0) → (0 < m ∧ m ≤ (match Nat.blt 0 m && Nat.blt 0 n with | true => (match Nat.ble m n with | true => n | false => m) | false => 0)) ∧ (0 < n ∧ n ≤ (match Nat.blt 0 m && Nat.blt 0 n with | true => (match Nat.ble m n with | true => n | false => m) | false => 0)) := by
   intro m n h
   split at h
   ·rename_i hb
    simp only [Bool.and_eq_true, Nat.blt_eq] at hb
    split
    ·rename_i hle
     simp only [Nat.ble_eq] at hle
     exact ⟨⟨hb.1, hle⟩, hb.2, Nat.le_refl _⟩
    ·rename_i hle
     rw [Bool.eq_false_iff, Ne, Nat.ble_eq] at hle
     exact ⟨⟨hb.1, Nat.le_refl _⟩, hb.2, by omega⟩
   ·omega
  obtain ⟨ar, aT, al, av, af, aff, alit, aub⟩ := a
  obtain ⟨br, bT, bl, bv, bf, bff, blit, bub⟩ := b
  cases e
  simp only at hT
  subst hT
  cases c with
  | true => exact ⟨rfl, rfl, hver, fun e => by simp at e; exact e.1, fun e => by simp at e; exact e.1, fun e => (hub _ _ e).1⟩
  | false => exact ⟨rfl, rfl, hver, fun e => by simp at e; exact e.2, fun e => by simp at e; exact e.2, fun e => (hub _ _ e).2⟩
 ·simp at h
theorem Zct {c : Bool} {y : List Stg} : ∀ {ts : List Nat} {l r : List Stg}, Zm1 c y ts l = some r → r.length = l.length ∧ ∀ i, memN ts i = false → nth r i = nth l i
 | [], l, r, h => by
  simp only [Zm1, oinj] at h; subst h
  exact ⟨rfl, fun _ _ => rfl⟩
 | t :: ts, l, r, h => by
  simp only [Zm1] at h
  split at h
  ·obtain ⟨h1, h2⟩ := Zct h
   exact ⟨h1, fun i hi => h2 i (Zdt hi).2⟩
  ·split at h
   ·split at h
    ·obtain ⟨h1, h2⟩ := Zct h
     refine ⟨by simpa [ZO] using h1, fun i hi => ?_⟩
     obtain ⟨q1, q2⟩ := Zdt hi
     rw [h2 i q2, ZL q1]
    ·simp at h
   ·obtain ⟨h1, h2⟩ := Zct h
    exact ⟨h1, fun i hi => h2 i (Zdt hi).2⟩
theorem Zdv {c : Bool} {y : List Stg} : ∀ {ts : List Nat} {l r : List Stg}, y.length = l.length → Zm1 c y ts l = some r → ∀ h g gb, memN ts h = true → nth r h = some g → cond c (nth l h) (nth y h) = some gb → Rep gb g
 | [], l, r, _, h, i, g, gb, hm, _, _ => by simp [memN] at hm
 | t :: ts, l, r, hyl, h, i, g, gb, hm, hg, hgb => by
  simp only [Zm1] at h
  split at h
  ·rename_i hmm
   refine Zdv hyl h i g gb ?_ hg hgb
   simp only [memN, Bool.or_eq_true, Nat.beq_eq] at hm
   rcases hm with rfl | hm
   ·exact hmm
   ·exact hm
  ·rename_i hmm
   split at h
   ·rename_i a b ha hb
    split at h
    ·rename_i z hz
     by_cases hm2 : memN ts i = true
     ·have hne : t ≠ i := fun e => by subst e; rw [hmm] at hm2; simp at hm2
      exact Zdv (by simpa [ZO] using hyl) h i g gb hm2 hg (by rw [ZL hne]; exact hgb)
     ·have hm2' : memN ts i = false := by simpa using hm2
      have : t = i := by
       simp only [memN, hm2', Bool.or_false, Nat.beq_eq] at hm; exact hm
      subst this
      rw [(Zct h).2 t hm2', ZK ha] at hg
      simp only [oinj] at hg; subst hg
      have := ZrA hz
      cases c
      ·have : gb = b := by simp only [cond_false, hb, oinj] at hgb; exact hgb.symm
       subst this; exact ZrA hz
      ·have : gb = a := by simp only [cond_true, ha, oinj] at hgb; exact hgb.symm
       subst this; exact ZrA hz
    ·simp at h
   ·rename_i hno
    by_cases hm2 : memN ts i = true
    ·exact Zdv hyl h i g gb hm2 hg hgb
    ·have hm2' : memN ts i = false := by simpa using hm2
     have : t = i := by
      simp only [memN, hm2', Bool.or_false, Nat.beq_eq] at hm; exact hm
     subst this
     exfalso
     have hlt : t < l.length := by
      cases c
      ·have := Z6 (show nth y t = some gb from hgb); omega
      ·exact Z6 (show nth l t = some gb from hgb)
     obtain ⟨p, hp⟩ := Zb6 hlt
     obtain ⟨q, hq⟩ := Zb6 (l := y) (n := t) (by omega)
     exact hno p q hp hq
theorem Zl9 {c : Bool} {nb ns : Nat} {nm : Nm} {y1 y2 m : St} (h : ZtI c nb ns nm y1 y2 = some m) :
  Zm1 c (ZaK ns y2.mem.stgs) (ZfW y1.sd y2.sd) (ZaK ns y1.mem.stgs) = some m.mem.stgs ∧
  ZcW c (tipM y1.mem.stgs y2.mem.stgs m.mem.stgs) nb nm (Nat.lor y1.dirty y2.dirty) 0 y2.slots y1.slots = some m.slots ∧
  Zhe c (tipM y1.mem.stgs y2.mem.stgs m.mem.stgs) nb y2.mem.boxes (Zh5 y1.bd y2.bd) (ZaK nb y1.mem.boxes) = some m.mem.boxes ∧
  m.dirty = Nat.lor y1.dirty y2.dirty ∧ m.bd = Zh5 y1.bd y2.bd ∧ m.sd = ZfW y1.sd y2.sd := by
 unfold ZtI at h
 split at h
 ·simp at h
 ·rename_i st hst
  split at h
  ·simp at h
  ·rename_i sl hsl
   split at h
   ·simp at h
   ·rename_i bx hbx
    simp only [oinj] at h
    subst h
    exact ⟨hst, hsl, hbx, rfl, rfl, rfl⟩
theorem ZxZ {s : St} (hs : s.dirty = 0 ∧ s.bd = [] ∧ s.sd = []) {nm : Nm} {c : Bool} {y1 y2 m : St}
  (k1 : Keep s y1) (k2 : Keep s y2) (hm : ZtI c (len s.mem.boxes) (len s.mem.stgs) nm y1 y2 = some m) : Keep s m := by
 obtain ⟨h1, h2, h3, h4, h5, h6⟩ := Zl9 hm
 rw [Zak] at h1 h2 h3
 obtain ⟨q1, q2⟩ := ZcK h2
 obtain ⟨q3, q4⟩ := ZcL h3
 obtain ⟨q5, q6⟩ := Zct h1
 refine ⟨q1.trans k1.sl, fun t ht => ?_, by rw [q3, ZaO k1.bl]; exact Nat.le_refl _, fun b l hl => ?_, by rw [q5, ZaO k1.gl]; exact Nat.le_refl _, fun i g hg => ?_⟩
 ·rw [h4] at ht
  refine ⟨by rw [hs.1]; exact ZjL t, ?_⟩
  have ht' := ht
  rw [Zef, Bool.or_eq_false_iff] at ht'
  rw [q2 t (by rw [Nat.zero_add]; exact ht), (k1.slot t ht'.1).2]
 ·obtain ⟨l1, e1, e2, e3⟩ := k1.box b l hl
  have hb := Z6 hl
  obtain ⟨q', f1, f2, f3⟩ := q4 b l1 (by rw [Zau hb]; exact e1)
  refine ⟨q', f1, f2.trans e2, fun j hj => ⟨by rw [hs.2.1]; rfl, ?_⟩⟩
  rw [h5] at hj
  have hj' := hj
  rw [Zcr, Bool.or_eq_false_iff] at hj'
  rw [f3 j hj, (e3 j hj'.1).2]
 ·obtain ⟨g1, e1, e2, e3⟩ := k1.stg i g hg
  obtain ⟨g2, e4, e5, e6⟩ := k2.stg i g hg
  have hi := Z6 hg
  obtain ⟨g', hg'⟩ := Zb6 (l := m.mem.stgs) (n := i) (by rw [q5, ZaO k1.gl]; exact hi)
  refine ⟨g', hg', ?_, fun hd => ⟨by rw [hs.2.2]; rfl, ?_⟩⟩
  ·by_cases hd : memN (ZfW y1.sd y2.sd) i = true
   ·have hyl : (ZaK s.mem.stgs.length y2.mem.stgs).length = (ZaK s.mem.stgs.length y1.mem.stgs).length := by rw [ZaO k1.gl, ZaO k2.gl]
    cases c
    ·exact Nat.le_trans e5 (Zdv hyl h1 i g' g2 hd hg' (by show nth _ _ = _; rw [Zau hi]; exact e4)).ver
    ·exact Nat.le_trans e2 (Zdv hyl h1 i g' g1 hd hg' (by show nth _ _ = _; rw [Zau hi]; exact e1)).ver
   ·have hd' : memN (ZfW y1.sd y2.sd) i = false := by simpa using hd
    rw [q6 i hd', Zau hi, e1] at hg'
    simp only [oinj] at hg'
    rw [← hg']; exact e2
  ·rw [h6] at hd
   have hd' := hd
   rw [Zcs, Bool.or_eq_false_iff] at hd'
   rw [q6 i hd, Zau hi, e1] at hg'
   simp only [oinj] at hg'
   rw [← hg']; exact (e3 hd'.1).2
def retag : List Stg → List SI → List SI
 | g :: gs, s :: ss => { s with ver := g.ver } :: retag gs ss
 | _, _ => []
theorem Zsv : ∀ {gs : List Stg} {ss : List SI}, gs.length ≤ ss.length → (retag gs ss).length = gs.length
 | [], _, _ => by simp [retag]
 | _ :: _, [], h => by simp at h
 | _ :: gs, _ :: ss, h => by simp only [retag, List.length_cons]; rw [Zsv (by simpa using h)]
theorem Zsu : ∀ {gs : List Stg} {ss : List SI} {i : Nat} {s' : SI}, nth (retag gs ss) i = some s' → ∃ g s, nth gs i = some g ∧ nth ss i = some s ∧ s' = { s with ver := g.ver }
 | [], _, i, s', h => by simp [retag, Zy] at h
 | _ :: _, [], i, s', h => by simp [retag, Zy] at h
 | g :: gs, s :: ss, 0, s', h => by simp only [retag, nth, oinj] at h; exact ⟨g, s, rfl, rfl, h.symm⟩
 | _ :: gs, _ :: ss, i + 1, s', h => by simp only [retag, nth] at h; exact Zsu (gs := gs) (ss := ss) h
theorem Zi7 : ∀ {gs : List Stg} {ss : List SI} {i : Nat} {g : Stg} {s : SI}, nth gs i = some g → nth ss i = some s → nth (retag gs ss) i = some { s with ver := g.ver }
 | [], _, i, _, _, h, _ => by simp [Zy] at h
 | _ :: _, [], i, _, _, _, h => by simp [Zy] at h
 | g :: gs, s :: ss, 0, _, _, h, h' => by simp only [nth, oinj] at h h'; subst h; subst h'; rfl
 | _ :: gs, _ :: ss, i + 1, _, _, h, h' => Zi7 (gs := gs) (ss := ss) h h'
set_option maxHeartbeats 1000000 in
theorem ZH5 {x0 x : Ctx} {w0 w : World} {s : St} {a : Act} (hp : RelH x0 w0 x s a w) {nm : Nm} {c : Bool} {y1 y2 m : St}
  (k1 : Keep s y1) (k2 : Keep s y2) (hm : ZtI c (len s.mem.boxes) (len s.mem.stgs) nm y1 y2 = some m) :
  ∀ x' a' w', RelH x0 w0 x' (cond c y1 y2) a' w' → ExtM x x' → ∃ x'', RelH x0 w0 x'' m a' w' ∧ ExtM x x'' := by
 obtain ⟨h1, h2, h3, h4, h5, h6⟩ := Zl9 hm
 rw [Zak] at h1 h2 h3
 obtain ⟨q1, q2⟩ := ZcK h2
 obtain ⟨q3, q4⟩ := ZcL h3
 obtain ⟨q5, q6⟩ := Zct h1
 have q3' : m.mem.boxes.length = s.mem.boxes.length := by rw [q3, ZaO k1.bl]
 have q5' : m.mem.stgs.length = s.mem.stgs.length := by rw [q5, ZaO k1.gl]
 intro x' a' w' hr hxx
 have hR := hr.r
 have hM := hR.m
 generalize hy : cond c y1 y2 = yc at *
 have kc : Keep s yc := by rw [← hy]; cases c; exact k2; exact k1
 have hml := hM.ml
 have hsl := hM.sl
 have hpm := hp.r.m
 have hrep : ∀ i g, nth m.mem.stgs i = some g → ∃ gb, nth yc.mem.stgs i = some gb ∧ Rep gb g := by
  intro i g hg
  have hi : i < s.mem.stgs.length := by have := Z6 hg; omega
  obtain ⟨gb0, hgb0⟩ := Zb6 hi
  obtain ⟨g1, e1, e2, e3⟩ := k1.stg i gb0 hgb0
  obtain ⟨g2, e4, e5, e6⟩ := k2.stg i gb0 hgb0
  by_cases hd : memN (ZfW y1.sd y2.sd) i = true
  ·have hyl : (ZaK s.mem.stgs.length y2.mem.stgs).length = (ZaK s.mem.stgs.length y1.mem.stgs).length := by rw [ZaO k1.gl, ZaO k2.gl]
   rw [← hy]
   cases c
   ·exact ⟨g2, e4, Zdv hyl h1 i g g2 hd hg (by show nth _ _ = _; rw [Zau hi]; exact e4)⟩
   ·exact ⟨g1, e1, Zdv hyl h1 i g g1 hd hg (by show nth _ _ = _; rw [Zau hi]; exact e1)⟩
  ·have hd' : memN (ZfW y1.sd y2.sd) i = false := by simpa using hd
   rw [q6 i hd', Zau hi, e1] at hg
   simp only [oinj] at hg
   rw [Zcs, Bool.or_eq_false_iff] at hd'
   have : g2 = g1 := by rw [(e3 hd'.1).2, (e6 hd'.2).2]
   subst this; subst hg
   rw [← hy]
   cases c
   ·exact ⟨g2, e4, .refl _⟩
   ·exact ⟨g2, e1, .refl _⟩
 let x'' : Ctx := { x' with M := ZaK s.mem.boxes.length x'.M, S := retag m.mem.stgs x'.S }
 have hSl : m.mem.stgs.length ≤ x'.S.length := by rw [hsl, q5']; exact kc.gl
 have hMl : s.mem.boxes.length ≤ x'.M.length := by rw [hml]; exact kc.bl
 have hS2 : ∀ i s'', nth x''.S i = some s'' → ∃ g gb s', nth m.mem.stgs i = some g ∧ nth yc.mem.stgs i = some gb ∧ nth x'.S i = some s' ∧ Rep gb g ∧ s'' = { s' with ver := g.ver } ∧ StgOk x' gb s' w' := by
  intro i s'' hs''
  obtain ⟨g, s', e1, e2, e3⟩ := Zsu hs''
  obtain ⟨gb, e4, e5⟩ := hrep i g e1
  exact ⟨g, gb, s', e1, e4, e2, e5, e3, hM.stg i gb s' e4 e2⟩
 have hback : Back x x' x'' := by
  refine ⟨hxx, ⟨fun b p h => ?_, fun i si hsi => ?_⟩, fun i si s' hsi hs' => ?_, rfl, rfl⟩
  ·have hb : b < s.mem.boxes.length := by have h1 := Z6 h; have h2 := hpm.ml; omega
   show nth (ZaK s.mem.boxes.length x'.M) b = some p
   rw [Zau hb]; exact hxx.M b p h
  ·obtain ⟨s', e1, e2⟩ := hxx.S i si hsi
   have hi : i < m.mem.stgs.length := by have h1 := Z6 hsi; have h2 := hpm.sl; omega
   obtain ⟨g, hg⟩ := Zb6 hi
   obtain ⟨gb, e3, e4⟩ := hrep i g hg
   have hok := hM.stg i gb s' e3 e1
   refine ⟨{ s' with ver := g.ver }, Zi7 hg e1, ⟨?_, fun e => ?_⟩⟩
   ·have h1 := e2.ver; have h2 := e4.ver; have h3 := hok.ver; show si.ver ≤ g.ver; omega
   ·have e : g.ver = si.ver := e
    have h1 := e2.ver; have h2 := e4.ver; have h3 := hok.ver
    exact e2.same (by omega)
  ·have hi : i < m.mem.stgs.length := by have h1 := Z6 hsi; have h2 := hpm.sl; omega
   obtain ⟨g, hg⟩ := Zb6 hi
   obtain ⟨gb, e3, e4⟩ := hrep i g hg
   have hok := hM.stg i gb s' e3 hs'
   exact ⟨{ s' with ver := g.ver }, Zi7 hg hs', by have h2 := e4.ver; have h3 := hok.ver; show s'.ver ≤ g.ver; omega, rfl, rfl, rfl, rfl⟩
 have hcut : Cut s.mem.boxes.length (tipM y1.mem.stgs y2.mem.stgs m.mem.stgs) c x' x'' := by
  refine ⟨fun b hb => Zau hb, fun i v v' mv htm val hv => ?_, fun _ _ _ h => h⟩
  unfold tipM at htm
  split at htm
  ·rename_i ga gb' gm ha hb' hgm
   split at htm
   ·rename_i hvv
    simp only [Bool.and_eq_true, Nat.beq_eq] at hvv
    obtain ⟨rfl, rfl⟩ := hvv
    simp only [oinj] at htm; subst htm
    obtain ⟨gb, e3, e4⟩ := hrep i gm hgm
    have hgc : (cond c ga.ver gb'.ver) = gb.ver := by
     rw [← hy] at e3
     cases c
     ·have e3 : nth y2.mem.stgs i = some gb := e3
      rw [hb'] at e3; simp only [oinj] at e3; subst e3; rfl
     ·have e3 : nth y1.mem.stgs i = some gb := e3
      rw [ha] at e3; simp only [oinj] at e3; subst e3; rfl
    rw [hgc] at hv
    cases hv with
    | tip _ _ _ s' _ hs' hv' hval hat =>
     have hok := hM.stg i gb s' e3 hs'
     refine .tip _ _ _ { s' with ver := gm.ver } _ (Zi7 hgm hs') (Nat.le_refl _) (fun _ => ?_) hat
     rw [hval hok.ver]; rfl
   ·simp at htm
  ·simp at htm
 refine ⟨x'', ⟨⟨⟨?_, ?_⟩, ?_, hR.d⟩, ?_, hr.t⟩, hback.b⟩
 ·rw [q1, k1.sl, ← kc.sl]; exact hR.f.size
 ·intro i v hv
  by_cases hd : tbit (Nat.lor y1.dirty y2.dirty) i = true
  ·have hres := Zmf hcut (fun i => a'.tmps.getD i undef) _ _ 0 _ h2 (fun i v _ hv => ?_) i v (by rw [Nat.zero_add]; exact hd) hv
   ·simpa using hres
   rw [Nat.zero_add]
   refine hR.f.slot i v ?_
   rw [← hy]
   cases c
   ·exact hv
   ·exact hv
  ·have hd' : tbit (Nat.lor y1.dirty y2.dirty) i = false := by simpa using hd
   have hd2 := hd'
   rw [Zef, Bool.or_eq_false_iff] at hd2
   rw [q2 i (by rw [Nat.zero_add]; exact hd'), (k1.slot i hd2.1).2] at hv
   have hold := hp.r.f.slot i v hv
   have hnow : nth yc.slots i = some v := by
    rw [← hy]
    cases c
    ·show nth y2.slots i = some v; rw [(k2.slot i hd2.2).2]; exact hv
    ·show nth y1.slots i = some v; rw [(k1.slot i hd2.1).2]; exact hv
   exact RV.cut hback hold (hR.f.slot i v hnow)
 ·refine ⟨hM.fresh, hM.fz, ?_, ?_, fun b p h => hM.mown b p (Zbx h).2, fun b b' p h h' => hM.inj b b' p (Zbx h).2 (Zbx h').2, ?_, ?_, ?_, ?_⟩
  ·show (ZaK s.mem.boxes.length x'.M).length = m.mem.boxes.length
   rw [ZaO hMl, q3']
  ·intro b l p hl hpM
   obtain ⟨hb, hpM'⟩ := Zbx hpM
   obtain ⟨l0, hl0⟩ := Zb6 hb
   obtain ⟨l1, e1, e2, e3⟩ := k1.box b l0 hl0
   obtain ⟨l2, g1, g2, g3⟩ := k2.box b l0 hl0
   obtain ⟨q', f1, f2, f3⟩ := q4 b l1 (by rw [Zau hb]; exact e1)
   have : q' = l := by rw [hl] at f1; simpa using f1.symm
   subst this
   have hnow : ∃ lc, nth yc.mem.boxes b = some lc ∧ lc.length = l0.length ∧ ∀ j, memP (Zh5 y1.bd y2.bd) b j = false → nth lc j = nth l0 j := by
    rw [← hy]
    cases c
    ·exact ⟨l2, g1, g2, fun j hj => by rw [Zcr, Bool.or_eq_false_iff] at hj; exact (g3 j hj.2).2⟩
    ·exact ⟨l1, e1, e2, fun j hj => by rw [Zcr, Bool.or_eq_false_iff] at hj; exact (e3 j hj.1).2⟩
   obtain ⟨lc, n1, n2, n3⟩ := hnow
   obtain ⟨C, T, p1, p2⟩ := hM.box b lc p n1 hpM'
   obtain ⟨p0, hp0⟩ := hpm.M_of hl0
   obtain ⟨C0, T0, p3, p4⟩ := hpm.box b l0 p0 hl0 hp0
   refine ⟨C, T, p1, RL.of_nth (by rw [f2, e2, ← n2]; exact p2.length) fun j e he => ?_⟩
   by_cases hd : memP (Zh5 y1.bd y2.bd) b j = true
   ·have hjlt : j < C.length := by rw [← p2.length, n2, ← e2, ← f2]; exact Z6 he
    refine ⟨C[j], List.getElem?_eq_getElem hjlt, ?_⟩
    have key := Zmh hcut (y := y2.mem.boxes) (fun b j => ((w'.heap[(nth x'.M b).getD 0]?).bind fun o => match o with | .cells C _ _ => C[j]? | _ => none).getD undef) _ _ _ h3
     (fun b2 q2 j2 a2 hb2 _ hq2 ha2 => by
      have hq2' : nth yc.mem.boxes b2 = some q2 := by
       rw [← hy]
       cases c
       ·exact hq2
       ·exact (Zbx (show nth (ZaK s.mem.boxes.length y1.mem.boxes) b2 = some q2 from hq2)).2
      obtain ⟨pp, hpp⟩ := Zb6 (l := x'.M) (n := b2) (by omega)
      obtain ⟨C2, T2, r1, r2⟩ := hM.box b2 q2 pp hq2' hpp
      obtain ⟨v2, r3, r4⟩ := r2.nth j2 a2 ha2
      simpa [hpp, r1, r3] using r4) b q' j e hb hd hl he
    have hval : ((w'.heap[(nth x'.M b).getD 0]?).bind fun o => match o with | .cells C _ _ => C[j]? | _ => none).getD undef = C[j] := by
     simp [hpM', p1, hjlt]
    rw [hval] at key; exact key
   ·have hd' : memP (Zh5 y1.bd y2.bd) b j = false := by simpa using hd
    have hd2 := hd'
    rw [Zcr, Bool.or_eq_false_iff] at hd2
    rw [f3 j hd', (e3 j hd2.1).2] at he
    obtain ⟨v, v1, v2⟩ := p2.nth j e (by rw [n3 j hd']; exact he)
    obtain ⟨v0, _, v3⟩ := p4.nth j e he
    exact ⟨v, v1, v3.cut hback v2⟩
  ·show (retag m.mem.stgs x'.S).length = _
   rw [Zsv hSl]
  ·intro i g s'' hg hs''
   obtain ⟨g', gb, s', e1, e2, e3, e4, e5, e6⟩ := hS2 i s'' hs''
   have : g' = g := by rw [hg] at e1; simpa using e1.symm
   subst this
   rw [e5]
   exact (e6.rep e4).ctx (fun _ _ _ h => h) (fun _ _ _ _ => rfl)
  ·intro i s'' p cap hs'' hb
   obtain ⟨g', gb, s', e1, e2, e3, e4, e5, e6⟩ := hS2 i s'' hs''
   rw [e5] at hb
   obtain ⟨o1, o2⟩ := hM.sown i s' p cap e3 hb
   exact ⟨o1, fun b e => o2 b (Zbx e).2⟩
  ·intro i i' s1 s2 p c1 c2 hs1 hs2 hb1 hb2
   obtain ⟨_, _, s1', _, _, e3, _, e5, _⟩ := hS2 i s1 hs1
   obtain ⟨_, _, s2', _, _, f3, _, f5, _⟩ := hS2 i' s2 hs2
   rw [e5] at hb1; rw [f5] at hb2
   exact hM.sinj i i' s1' s2' p c1 c2 e3 f3 hb1 hb2
 ·refine ⟨hr.e.own, fun b p h => hback.b.M b p (hp.e.M b p h), fun i si hsi => ?_, hr.e.fz, hr.e.new⟩
  obtain ⟨s1, e1, e2⟩ := hp.e.S i si hsi
  obtain ⟨s2, e3, e4⟩ := hback.b.S i s1 e1
  exact ⟨s2, e3, e2.trans e4⟩
theorem RelH.same {x0 x : Ctx} {w0 w w' : World} {s : St} {a : Act} (h : RelH x0 w0 x s a w) (hw : ZcT w w') : RelH x0 w0 x s a w' :=
 ⟨⟨h.r.f, h.r.m.old hw.1, h.r.d⟩, h.e, h.t.trans (hw.step h.r.m) h.e.own⟩
def ZR (P : Program) (f : FuncId) : Prop := ∀ (args : Array Value) (w : World), (callFunc f args).run P w = .ok (.enter f args) w
def ZJt (g : List V → Mem → Option (Option Bool × V)) : Prop := ∀ vs m m' r, g vs m = some r → m'.stgs = m.stgs → (∀ b o, V.w (.one (.loc b o)) ∈ vs → nth m'.boxes b = nth m.boxes b) → g vs m' = some r
def OwnG (g : List V → Mem → RT (Option Res)) : Prop := ∀ vs m r, (g vs m).val = some r → ∃ b, ZAK vs = some b ∧ r.m.stgs = m.stgs ∧ m.boxes.length ≤ r.m.boxes.length ∧ ∀ b', b' ≠ b → nth r.m.boxes b' = nth m.boxes b'
def Zc (P : Program) (f : FuncId) : Entry → Prop
 | .pure p => ZR P f ∧ ∀ vs chk v, p vs = some (chk, v) → chk ≠ some false → ∀ x m w args, MemOk x m w → RVs x vs args →
   Calls P f args.toArray w (fun e w' => ∃ val x', e = .returned val ∧ RV x' v val ∧ MemOk x' m w' ∧ Ext x x' ∧ ZcT w w')
 | .tree g => ZR P f ∧ (∀ vs m, (g vs m).All (fun r => ∀ q, r = some q → KeepC m q)) ∧ ∀ vs m r, (g vs m).val = some r → r.chk ≠ some false → ∀ x w args, MemOk x m w → RVs x vs args →
   Calls P f args.toArray w (fun e w' => ∃ val x', e = .returned val ∧ RV x' r.v val ∧ MemOk x' r.m w' ∧ Ext x x' ∧ Step x w w')
 | .read g => ZR P f ∧ ZJt g ∧ ∀ vs m chk v, g vs m = some (chk, v) → chk ≠ some false → ∀ x w args, MemOk x m w → RVs x vs args →
   Calls P f args.toArray w (fun e w' => ∃ val x', e = .returned val ∧ RV x' v val ∧ MemOk x' m w' ∧ Ext x x' ∧ ZcT w w')
 | .own g => (ZR P f ∧ (∀ vs m, (g vs m).All (fun r => ∀ q, r = some q → KeepC m q)) ∧ ∀ vs m r, (g vs m).val = some r → r.chk ≠ some false → ∀ x w args, MemOk x m w → RVs x vs args →
   Calls P f args.toArray w (fun e w' => ∃ val x', e = .returned val ∧ RV x' r.v val ∧ MemOk x' r.m w' ∧ Ext x x' ∧ Step x w w')) ∧ OwnG g
theorem Zc.plain {P : Program} {f : FuncId} : ∀ {e : Entry}, Zc P f e → Zc P f e.plain
 | .pure _, h => h
 | .tree _, h => h
 | .read _, h => h
 | .own _, h => h.1
def Zbl (E : Env) : Prop := ∀ f e, E.calls f = some e → Zc E.P f e
theorem Hold.stop {x0 x : Ctx} {w0 w : World} {s : St} {a : Act} {Q : Exit → Act → World → Prop} (hr : RelH x0 w0 x s a w) (h : Hold x0 w0 x Q ⟨.stop, s⟩) : False :=
 h x a w hr (ExtM.refl x)
theorem Hold.chk {x0 x : Ctx} {w0 w : World} {s : St} {a : Act} {Q : Exit → Act → World → Prop} {c : Option Bool} {t : RT Out} (hr : RelH x0 w0 x s a w) (h : Hold x0 w0 x Q (chkT c s t).val) :
  c ≠ some false ∧ Hold x0 w0 x Q t.val := by
 cases c with
 | none => exact ⟨by simp, h⟩
 | some b =>
  cases b with
  | true => exact ⟨by simp, h⟩
  | false => exact (Hold.stop hr h).elim
theorem Zp0 (a : Act) (d : Option Nat) (v : Value) : (a.put d v).defers = a.defers := by cases d <;> rfl
theorem RF.put {x : Ctx} {s : St} {a : Act} (h : RF x s.slots a.tmps) (d : Option Nat) {v : V} {u : Value} (hv : RV x v u) : RF x (S3.put s d v).slots (a.put d u).tmps := by
 cases d with
 | none => exact h
 | some d => exact h.set d hv
theorem Zfb (s : St) (d : Option Nat) (v : V) : (S3.put s d v).mem = s.mem := by cases d <;> rfl
theorem RelH.putRes {x0 x x' : Ctx} {w0 w w' : World} {s : St} {a : Act} {r : Res} {v : Value} (h : RelH x0 w0 x s a w) (d : Option Nat) (hv : RV x' r.v v) (hm : MemOk x' r.m w') (he : Ext x x') (ht : Step x w w') :
  RelH x0 w0 x' (S3.putRes s d r) (a.put d v) w' :=
 ⟨⟨RF.put (s := { s with mem := r.m, bd := r.bd, sd := r.sd }) (h.r.f.mono he) d hv, by rw [S3.putRes, Zfb]; exact hm, by rw [Zp0]; exact h.r.d⟩, h.e.trans he, h.t.trans ht h.e.own⟩
theorem Hold.ext {x0 x x' : Ctx} {w0 : World} {Q : Exit → Act → World → Prop} {o : Out} (h : Hold x0 w0 x Q o) (e : ExtM x x') : Hold x0 w0 x' Q o :=
 fun y a w hr k => h y a w hr (e.trans k)
theorem ZmF {P : Program} {x : Ctx} : ∀ (vs : List V) (args : List Value) (l l' : Bool) (k k' : IntKind) (n n' : Int), RVs x vs args → inR k n → ZmG (l, k, n) vs = some (l', k', n') →
  inR k' n' ∧ ∀ w, (args.foldlM Builtin.min2 (.int k n)).run P w = .ok (.int k' n') w
 | [], [], l, l', k, k', n, n', _, hk, h => by
  simp only [ZmG, oinj, pinj] at h
  obtain ⟨_, rfl, rfl⟩ := h
  exact ⟨hk, fun w => rfl⟩
 | v :: vs, u :: args, l, l', k, k', n, n', hv, hk, h => by
  unfold ZmG at h
  split at h
  ·simp at *
  ·rename_i l1 k1 n1 r heq
   obtain ⟨rfl, rfl⟩ := heq
   split at h
   ·rename_i hkk
    have := Zc2 hkk
    subst this
    obtain ⟨e1, e2⟩ := Zca (show RA x (.int l1 k1 n1) u from hv.1)
    subst e1
    obtain ⟨h1, h2⟩ := ZmF vs args _ _ _ _ _ _ hv.2 (by simp only; split <;> assumption) h
    refine ⟨h1, fun w => ?_⟩
    simp only [List.foldlM_cons, Sem.run_bind, Builtin.min2, Sem.run_pure, Result.andThen_ok]
    exact h2 w
   ·simp at h
  ·simp at h
 | [], _ :: _, _, _, _, _, _, _, h, _, _ => h.elim
 | _ :: _, [], _, _, _, _, _, _, h, _, _ => h.elim
theorem ZmH {P : Program} {x : Ctx} : ∀ (vs : List V) (args : List Value) (l l' : Bool) (k k' : IntKind) (n n' : Int), RVs x vs args → inR k n → ZmI (l, k, n) vs = some (l', k', n') →
  inR k' n' ∧ ∀ w, (args.foldlM Builtin.max2 (.int k n)).run P w = .ok (.int k' n') w
 | [], [], l, l', k, k', n, n', _, hk, h => by
  simp only [ZmI, oinj, pinj] at h
  obtain ⟨_, rfl, rfl⟩ := h
  exact ⟨hk, fun w => rfl⟩
 | v :: vs, u :: args, l, l', k, k', n, n', hv, hk, h => by
  unfold ZmI at h
  split at h
  ·simp at *
  ·rename_i l1 k1 n1 r heq
   obtain ⟨rfl, rfl⟩ := heq
   split at h
   ·rename_i hkk
    have := Zc2 hkk
    subst this
    obtain ⟨e1, e2⟩ := Zca (show RA x (.int l1 k1 n1) u from hv.1)
    subst e1
    obtain ⟨h1, h2⟩ := ZmH vs args _ _ _ _ _ _ hv.2 (by simp only; split <;> assumption) h
    refine ⟨h1, fun w => ?_⟩
    simp only [List.foldlM_cons, Sem.run_bind, Builtin.max2, Sem.run_pure, Result.andThen_ok]
    exact h2 w
   ·simp at h
  ·simp at h
 | [], _ :: _, _, _, _, _, _, _, h, _, _ => h.elim
 | _ :: _, [], _, _, _, _, _, _, h, _, _ => h.elim
theorem Zhw {P : Program} {x : Ctx} {s : St} {w : World} {b : Builtin} {ts : List TypeId} {vs : List V} {args : List Value} {r : Res} (ty : TypeId) (cs : Array Bool) (hm : MemR x s.mem w) (hv : RVs x vs args) (hb : b ≠ .append) (h : ZcF P s b ts vs = some r) :
  ∃ v, (∀ w', (builtin b ts.toArray ty cs args.toArray).run P w' = .ok (.value v) w') ∧ RV x r.v v := by
 unfold ZcF at h
 split at h
 ·rename_i l k n vs'
  split at h
  ·rename_i l' k' n' hf
   simp only [Za0, oinj] at h; subst h
   cases args with
   | nil => exact hv.elim
   | cons u args =>
    obtain ⟨e1, e2⟩ := Zca (show RA x (.int l k n) u from hv.1)
    subst e1
    obtain ⟨h1, h2⟩ := ZmF (P := P) vs' args _ _ _ _ _ _ hv.2 e2 hf
    exact ⟨_, fun w => by simp [builtin, Builtin.min_, h2 w], .int _ _ _ _ h1⟩
  ·simp at h
 ·rename_i l k n vs'
  split at h
  ·rename_i l' k' n' hf
   simp only [Za0, oinj] at h; subst h
   cases args with
   | nil => exact hv.elim
   | cons u args =>
    obtain ⟨e1, e2⟩ := Zca (show RA x (.int l k n) u from hv.1)
    subst e1
    obtain ⟨h1, h2⟩ := ZmH (P := P) vs' args _ _ _ _ _ _ hv.2 e2 hf
    exact ⟨_, fun w => by simp [builtin, Builtin.max_, h2 w], .int _ _ _ _ h1⟩
  ·simp at h
 ·rename_i t v
  match args, hv with
  | [u], hv =>
   obtain ⟨_, _, _, u', h1, h2⟩ := ZO5 (P := P) (ty := ty) hm hv.1 h
   exact ⟨u', fun w' => by simp [builtin, h1 w'], h2⟩
 ·exact absurd rfl hb
 ·simp at h
theorem Zyu {P : Program} {x : Ctx} {s : St} {w : World} {b : Builtin} {ts : List TypeId} {vs : List V} {args : List Value} {r : Res} (ty : TypeId) (cs : Array Bool) (hm : MemOk x s.mem w) (hv : RVs x vs args) (h : ZcF P s b ts vs = some r) (hc : r.chk ≠ some false) :
  ∃ v w' x', (builtin b ts.toArray ty cs args.toArray).run P w = .ok (.value v) w' ∧ RV x' r.v v ∧ MemOk x' r.m w' ∧ Ext x x' ∧ Step x w w' := by
 by_cases hb : b = .append
 ·subst hb
  unfold ZcF at h
  split at h
  all_goals try (rename Builtin.append = _ => heq; cases heq; done)
  ·rename_i t t' xa ya
   match args, hv with
   | [u, u'], hv =>
    obtain ⟨v, w', x', h1, h2, h3, h4, h5⟩ := ZDL (P := P) hm hv.1 hv.2.1 ty h hc
    exact ⟨v, w', x', by simp [builtin, h1], h2, h3, h4, h5⟩
  ·simp at h
 ·obtain ⟨v, h1, h2⟩ := Zhw ty cs hm.toR hv hb h
  have hk : r.m = s.mem := by
   unfold ZcF at h
   split at h
   ·split at h
    ·simp only [Za0, oinj] at h; subst h; rfl
    ·simp at h
   ·split at h
    ·simp only [Za0, oinj] at h; subst h; rfl
    ·simp at h
   ·unfold lenA at h
    repeat' split at h
    all_goals first
     | (simp only [Za0, oinj] at h; subst h; rfl)
     | (simp at h; done)
   ·exact absurd rfl hb
   ·simp at h
  exact ⟨v, w, x, h1 w, h2, by rw [hk]; exact hm, Ext.refl x, Step.refl x w⟩
theorem RVs.append {x : Ctx} : ∀ {l l' : List V} {vs vs' : List Value}, RVs x l vs → RVs x l' vs' → RVs x (l ++ l') (vs ++ vs')
 | [], _, [], _, _, h' => by simpa using h'
 | _ :: _, _, _ :: _, _, h, h' => ⟨h.1, RVs.append h.2 h'⟩
 | [], _, _ :: _, _, h, _ => h.elim
 | _ :: _, _, [], _, h, _ => h.elim
theorem ZmW {x : Ctx} : ∀ (caps : List A) (cs : List Value) (c : Nat → Value), len cs = len caps → (∀ j a, nth caps j = some a → nth cs j = some (c j)) → (∀ j a, nth caps j = some a → RA x a (c j)) →
  RVs x (caps.map fun a => .w (.one a)) cs
 | [], [], _, _, _, _ => trivial
 | a :: caps, v :: cs, c, hl, hc, hr => by
  refine ⟨?_, ZmW caps cs (fun j => c (j + 1)) (by simpa [len] using hl) (fun j a h => hc (j + 1) a h) (fun j a h => hr (j + 1) a h)⟩
  have h1 := hc 0 a rfl
  have h2 := hr 0 a rfl
  simp only [nth, oinj] at h1
  subst h1; exact h2
 | [], _ :: _, _, h, _, _ => by simp [len] at h
 | _ :: _, [], _, h, _, _ => by simp [len] at h
theorem ZdB {E : Env} (hE : Zbl E) {x : Ctx} {s : St} {a : Act} (hf : RF x s.slots a.tmps) {o : Oper} {c : Call} (ho : o.op = .call c) {e : Entry} {caps : List V} (h : ZaL E s c = some (e, caps)) {vs : List V}
  (hvs : opds s c.args.toList = some vs) :
  ∃ f args, Zc E.P f e ∧ RVs x (vs ++ caps) args ∧ (ZR E.P f → ∀ w, (execOp a.eval o).run E.P w = .ok (.enter f args.toArray) w) := by
 unfold ZaL at h
 split at h
 ·rename_i fo hc
  split at h
  ·rename_i f cs hcs
   split at h
   ·rename_i e' he
    simp only [oinj, pinj] at h
    obtain ⟨rfl, rfl⟩ := h
    have hv := Zav hf hcs
    generalize hev : a.eval fo = fv at *
    cases hv with
    | clo _ _ _ C cc h1 h2 h3 =>
     refine ⟨f, c.args.toList.map a.eval ++ C, (hE f e' he).plain, RVs.append (ZhW hf hvs) (ZmW _ _ _ h1 h2 h3), fun hcall w => ?_⟩
     simp [execOp, ho, resolve, hc, hev, Deferred.ofValue, invoke]
     rw [hcall]
     congr 2
     apply Array.ext'; simp
   ·simp at h
  ·simp at h
 ·simp at h
theorem Zcm {P : Program} {a : Act} {o : Oper} {w w' : World} {v : Value} {next : Act → World → Prop} {Q : Exit → Act → World → Prop} (h : ZQ7 P a o w v w') (hn : next (a.put o.dst v) w') : o.wp P a w next Q := by
 rcases h with h | ⟨h, rfl⟩
 ·simp only [Oper.wp, h, Oper.upon]; exact hn
 ·simp only [Oper.wp, h, Oper.upon]; exact hn
theorem ZmR {P : Program} {a : Act} {o : Oper} {c : Call} {b : Builtin} (ho : o.op = .call c) (hc : c.callee = .builtin b) (w : World) :
  (execOp a.eval o).run P w = (builtin b c.argTypes o.type (c.args.map fun | .const _ => true | _ => false) (c.args.toList.map a.eval).toArray).run P w := by
 simp [execOp, ho, resolve, hc, invoke]
 congr 2
 apply Array.ext'; simp
theorem ZmT {P : Program} {s : St} {t : TypeId} {x : A} {k : IntKind} {n : Int} {r : Res} : ∀ {m j : Nat}, (Zio P s t x k n m j).val = some r → ∃ j : Nat, n = (j : Int) ∧ ZbF P s t x (.int true k j) = some r
 | 0, j, h => by simp [Zio, RT.val] at h
 | m + 1, j, h => by
  simp only [Zio, RT.val] at h
  cases hn : n == (j : Int) with
  | true => rw [hn] at h; exact ⟨j, by simpa using hn, h⟩
  | false => rw [hn] at h; exact ZmT h
theorem ZLq {P : Program} {s : St} {t : TypeId} {xa i : A} {r : Res} (h : (idxT P s t xa i).val = some r) : ∃ i', (∀ (x : Ctx) v, RA x i v → RA x i' v) ∧ ZbF P s t xa i' = some r := by
 unfold idxT at h
 split at h
 ·obtain ⟨j, rfl, h'⟩ := ZmT h
  refine ⟨_, fun x v hv => ?_, h'⟩
  cases hv; exact .int _ _ _ _ (by assumption)
 ·exact ⟨_, fun _ _ h => h, h⟩
theorem Zt7 {P : Program} {x : Ctx} {m0 : Mem} {s : St} {a : Act} {w : World} {o : Oper} {t : TypeId} {y i : Operand} {xa ia : A} {r : Res} (hf : RF x s.slots a.tmps) (hr : MemR x s.mem w) (hm : MemOk x m0 w) (ho : o.op = .indexAddr t y i)
  (hp : opd1 s y = some xa) (hi : opd1 s i = some ia) (h : (idxT P s t xa ia).val = some r) (hc : r.chk ≠ some false) : ZDN P x m0 s a o w r := by
 obtain ⟨i', hi', h⟩ := ZLq h
 obtain ⟨e1, e2, e3, v, h1, h2⟩ := Zhj hr (Zav hf hp) (hi' _ _ (Zav hf hi)) h hc
 exact .of hm e1 e2 e3 (by simp [execOp, ho, h1]) h2
theorem Zng {E : Env} (hE : Zbl E) {x : Ctx} {w : World} {s : St} {a : Act} {o : Oper} {r : Res} (hf : RF x s.slots a.tmps) (hd : a.defers = []) (hm : MemOk x s.mem w) (h : (ZaD E s o).val = some r) (hc : r.chk ≠ some false)
  {K : Act → World → Prop} {Q : Exit → Act → World → Prop} (hK : ∀ v w' x', RV x' r.v v → MemOk x' r.m w' → Ext x x' → Step x w w' → K (a.put o.dst v) w') : o.wp E.P a w K Q := by
 unfold ZaD at h
 split at h
 ·rename_i c ho
  split at h
  ·rename_i b hcb
   split at h
   ·rename_i vs hvs
    simp only [RT.val] at h
    obtain ⟨v, w', x', h1, h2, h3, h4, h5⟩ := Zyu (P := E.P) o.type (c.args.map fun | .const _ => true | _ => false) hm (ZhW hf hvs) h hc
    refine Zcm (v := v) (w' := w') (.inl (by rw [ZmR ho hcb]; simpa using h1)) (hK v w' x' h2 h3 h4 h5)
   ·simp [RT.val] at h
  ·split at h
   ·rename_i p caps vs hcal hvs
    split at h
    ·rename_i vs' s' hfz
     split at h
     ·rename_i chk v hp
      simp only [RT.val, oinj] at h; subst h
      obtain ⟨f, args, he, hargs, hrun⟩ := ZdB hE hf ho hcal hvs
      obtain ⟨x1, m1, e1, r1, k1⟩ := Zes hm hargs hfz
      have hcalls := he.2 _ _ _ hp hc x1 s'.mem w args m1 r1
      simp only [Oper.wp, hrun he.1 w, Oper.upon]
      refine hcalls.mono fun e w' hres => ?_
      obtain ⟨val, x', rfl, hv, hm', hx, hw⟩ := hres
      exact hK val w' x' hv hm' (e1.trans hx) (hw.step hm)
     ·simp [RT.val] at h
    ·simp [RT.val] at h
   ·rename_i g caps vs hcal hvs
    split at h
    ·rename_i chk v hg
     simp only [RT.val, oinj] at h; subst h
     obtain ⟨f, args, he, hargs, hrun⟩ := ZdB hE hf ho hcal hvs
     have hcalls := he.2.2 _ _ _ _ hg hc x w args hm hargs
     simp only [Oper.wp, hrun he.1 w, Oper.upon]
     refine hcalls.mono fun e w' hres => ?_
     obtain ⟨val, x', rfl, hv, hm', hx, hw⟩ := hres
     exact hK val w' x' hv hm' hx (hw.step hm)
    ·simp [RT.val] at h
   ·rename_i g caps vs hcal hvs
    rw [RT.val_map] at h
    split at h
    ·rename_i r0 hg
     simp only [oinj] at h; subst h
     obtain ⟨f, args, he, hargs, hrun⟩ := ZdB hE hf ho hcal hvs
     have hcalls := he.2.2 _ _ _ hg hc x w args hm hargs
     simp only [Oper.wp, hrun he.1 w, Oper.upon]
     refine hcalls.mono fun e w' hres => ?_
     obtain ⟨val, x', rfl, hv, hm', hx, ht⟩ := hres
     exact hK val w' x' hv hm' hx ht
    ·simp at h
   ·simp [RT.val] at h
 ·rename_i t y i ho
  split at h
  ·rename_i xa ia hp hi
   obtain ⟨v, w', x', h1, h2, h3, h4, h5⟩ := (Zt7 hf hm.toR hm ho hp hi h hc).sound hm
   exact Zcm h1 (hK v w' x' h2 h3 h4 h5)
  ·simp [RT.val] at h
 ·rename_i op hop
  simp only [RT.val] at h
  obtain ⟨v, w', x', h1, h2, h3, h4, h5⟩ := ZPv ⟨hf, hm, hd⟩ rfl h hc
  exact Zcm h1 (hK v w' x' h2 h3 h4 h5)
theorem Zn8 {E : Env} (hE : Zbl E) {x : Ctx} {m0 : Mem} {w : World} {s : St} {a : Act} {o : Oper} {chk : Option Bool} {v : V} {rd : Bool} (hf : RF x s.slots a.tmps) (hr : MemR x s.mem w) (hm : MemOk x m0 w) (hrd : rd = true → s.mem = m0) (h : Zcz E rd s o = some (chk, v)) (hc : chk ≠ some false)
  {K : Act → World → Prop} {Q : Exit → Act → World → Prop} (hK : ∀ u w' x', RV x' v u → MemOk x' m0 w' → Ext x x' → ZcT w w' → K (a.put o.dst u) w') : o.wp E.P a w K Q := by
 unfold Zcz at h
 split at h
 ·simp at h
 rename_i hfree
 simp only [Bool.and_eq_true, Bool.not_eq_true', Bool.or_eq_true] at hfree
 obtain ⟨⟨hchg, hfrz⟩, hread⟩ := hfree
 split at h
 case h_2 => simp at h
 rename_i r hres
 simp only [oinj, pinj] at h
 obtain ⟨rfl, rfl⟩ := h
 unfold ZaD at hres
 split at hres
 ·rename_i c ho
  rw [ho] at hchg hfrz hread
  split at hres
  ·rename_i b hcb
   have hb : b ≠ .append := by
    intro e; subst e
    simp [Zm3, hcb] at hchg
   split at hres
   ·rename_i vs hvs
    simp only [RT.leaf.injEq] at hres
    obtain ⟨v, h1, h2⟩ := Zhw (P := E.P) o.type (c.args.map fun | .const _ => true | _ => false) hr (ZhW hf hvs) hb hres
    exact Zcm (v := v) (w' := w) (.inl (by rw [ZmR ho hcb]; simpa using h1 w)) (hK v w x h2 hm (Ext.refl x) (ZcT.refl w))
   ·simp at hres
  ·rename_i hnb
   split at hres
   ·rename_i p caps vs hcal hvs
    have hfr : (vs ++ caps).all (ZbN s.mem) = true := by
     have hfrz' : (match c.callee with
      | .builtin _ => true
      | _ => match ZaL E s c, opds s c.args.toList with
       | some (.read _, _), some _ => true
       | some (_, caps), some vs => (vs ++ caps).all (ZbN s.mem)
       | _, _ => false) = true := hfrz
     split at hfrz'
     ·rename_i b hcb; exact absurd hcb (hnb b)
     ·rw [hcal, hvs] at hfrz'; exact hfrz'
    split at hres
    ·rename_i vs' s' hfz
     split at hres
     ·rename_i chk v hp
      simp only [RT.leaf.injEq, oinj] at hres; subst hres
      obtain ⟨rfl, q2⟩ := ZmC hr hfr hfz
      obtain ⟨f, args, he, hargs, hrun⟩ := ZdB hE hf ho hcal hvs
      have hcalls := he.2 _ _ _ hp hc x m0 w args hm (q2 _ hargs)
      simp only [Oper.wp, hrun he.1 w, Oper.upon]
      refine hcalls.mono fun e w' hres => ?_
      obtain ⟨val, x', rfl, hv, hm', hx, hw⟩ := hres
      exact hK val w' x' hv hm' hx hw
     ·simp at hres
    ·simp at hres
   ·rename_i g caps vs hcal hvs
    split at hres
    ·rename_i chk v hg
     simp only [RT.leaf.injEq, oinj] at hres; subst hres
     have hrd' : rd = true := by
      rcases hread with h | h
      ·exact h
      ·exfalso
       have h' : (match c.callee with
        | .value (.func f) => match E.calls f with
         | some (.read _) => true
         | _ => false
        | _ => false) = false := h
       have hchg' : (match c.callee with
        | .builtin .append => true
        | .builtin _ => false
        | .value (.func f) => match E.calls f with
         | some (.pure _) => false
         | some (.read _) => false
         | _ => true
        | _ => true) = false := hchg
       split at hchg'
       ·simp at hchg'
       ·rename_i b _ hcb; exact absurd hcb (hnb b)
       ·rename_i f hcf
        unfold ZaL at hcal
        rw [hcf] at hcal h'
        simp only [opd1, opd, Option.bind_some, V.one] at hcal h'
        cases he : E.calls f with
        | none => rw [he] at hcal; simp at hcal
        | some e =>
         rw [he] at hcal h'
         simp only [oinj, pinj] at hcal
         rw [Entry.plain_read hcal.1] at h'
         simp at h'
       ·simp at hchg'
     have hmm := hrd hrd'
     obtain ⟨f, args, he, hargs, hrun⟩ := ZdB hE hf ho hcal hvs
     have hcalls := he.2.2 _ _ _ _ hg hc x w args (by rw [hmm]; exact hm) hargs
     simp only [Oper.wp, hrun he.1 w, Oper.upon]
     refine hcalls.mono fun e w' hres => ?_
     obtain ⟨val, x', rfl, hv, hm', hx, hw⟩ := hres
     exact hK val w' x' hv (by rw [← hmm]; exact hm') hx hw
    ·simp at hres
   ·rename_i g caps vs hcal hvs
    exfalso
    have hchg' : (match c.callee with
     | .builtin .append => true
     | .builtin _ => false
     | .value (.func f) => match E.calls f with
      | some (.pure _) => false
      | some (.read _) => false
      | _ => true
     | _ => true) = false := hchg
    split at hchg'
    ·simp at hchg'
    ·rename_i b _ hcb; exact absurd hcb (hnb b)
    ·rename_i f hcf
     unfold ZaL at hcal
     rw [hcf] at hcal
     simp only [opd1, opd, Option.bind_some, V.one] at hcal
     split at hchg'
     ·rename_i p' hp'
      rw [hp'] at hcal
      simp [Entry.plain] at hcal
     ·rename_i p' hp'
      rw [hp'] at hcal
      simp [Entry.plain] at hcal
     ·simp at hchg'
    ·simp at hchg'
   ·simp at hres
 ·rename_i t y i ho
  split at hres
  ·rename_i xa ia hp hi
   obtain ⟨_, _, _, v, w', x', h1, h2, h3, h4, h5⟩ := Zt7 hf hr hm ho hp hi (by rw [hres]; rfl) hc
   exact Zcm (.inl h1) (hK v w' x' h2 h3 h4 h5)
  ·simp at hres
 ·rename_i op hop hop2
  simp only [RT.leaf.injEq] at hres
  have hk : ZrS o.op = true := by
   revert hchg hop
   cases o.op <;> simp [Zm3, ZrS]
  obtain ⟨_, _, _, v, w', x', h1, h2, h3, h4, h5⟩ := Zuj hf hr hm rfl hk hfrz hres hc
  exact Zcm (.inl h1) (hK v w' x' h2 h3 h4 h5)
inductive Ty where
 | skip
 | free (v : V)
 | read (v : V) (rb : Option (Nat × Bool))
 | chain (r : Res) (tb : Option (Nat × Bool))
def Ty.isChain : Ty → Prop
 | .chain _ _ => True
 | _ => False
def Ty.isRead : Ty → Prop
 | .read _ _ => True
 | _ => False
def Ty.touch : Ty → Option (Nat × Bool)
 | .chain _ tb => tb
 | _ => none
def Ty.loc : Ty → Option (Nat × Bool)
 | .read _ rb => rb
 | _ => none
def Ty.bound (a b : Ty) : Prop := b.isChain ∧ a.isChain ∨ b.isChain ∧ a.isRead ∧ Zc0 b.touch a.loc = false ∨ b.isRead ∧ a.isChain ∧ Zc0 a.touch b.loc = false
def ZiW (ops : List Oper) (s : St) (g : Option (Nat × Bool)) (s1 : St) (w : Bool) : Prop :=
 match g with
 | none => s1 = s ∧ w = true
 | some (j, want) => ∃ o d, nth ops j = some o ∧ o.dst = some d ∧
   ((∃ b, nth s.slots d = some (.w (.one (.bool true b))) ∧ s1 = s ∧ w = (b == want)) ∨
    (∃ b, nth s.slots d = some (.w (.one (.bool false b))) ∧ s1 = put s (some d) (.w (.one (.bool true b))) ∧ w = (b == want)) ∨
    (nth s.slots d = some (.tup []) ∧ s1 = s ∧ w = false))
def Zhy (E : Env) (chg : Bool) (ops : List Oper) (s : St) (ty : Ty) (o : Oper) (s' : St) : Prop :=
 ∃ s1 w, ZiW ops s o.guard s1 w ∧ match ty with
  | .skip => w = false ∧ s' = put s1 o.dst Zis
  | .free v => w = true ∧ ∃ chk, Zcz E (!chg) (ZAG chg (mask s1 o)) o = some (chk, v) ∧ chk ≠ some false ∧ s' = put s1 o.dst v
  | .read v rb => w = true ∧ chg = true ∧ rb = Zmj E (mask s1 o) o ∧ ∃ chk, Zcz E true (mask s1 o) o = some (chk, v) ∧ chk ≠ some false ∧ s' = put s1 o.dst v
  | .chain r tb => w = true ∧ chg = true ∧ tb = ZjK E (mask s1 o) o ∧ (ZaD E (mask s1 o) o).val = some r ∧ r.chk ≠ some false ∧ s' = putRes s1 o.dst r
inductive Waits (ops : List Oper) (i : Nat) : Nat → Prop
 | one (j : Nat) (o : Oper) (e : Edge) (h : nth ops j = some o) (he : e ∈ o.after) (hb : Region.binds .any e = true) (hi : e.on = i) : Waits ops i j
 | more (j : Nat) (o : Oper) (e : Edge) (h : nth ops j = some o) (he : e ∈ o.after) (hb : Region.binds .any e = true) (hi : Waits ops i e.on) : Waits ops i j
theorem Waits.trans {ops : List Oper} {i j k : Nat} (h : Waits ops i j) (h' : Waits ops j k) : Waits ops i k := by
 induction h' with
 | one k o e h1 he hb hi => exact .more k o e h1 he hb (hi ▸ h)
 | more k o e h1 he hb hi ih => exact .more k o e h1 he hb ih
theorem ZmM {i : Nat} : ∀ {l : List Edge}, tbit (emL l) i = true → ∃ e ∈ l, Region.binds .any e = true ∧ e.on = i
 | [], h => by simp [emL, ZjL] at h
 | e :: l, h => by
  simp only [emL] at h
  split at h
  ·rename_i hb
   rw [Zdh, Bool.or_eq_true, Nat.beq_eq] at h
   rcases h with h | h
   ·exact ⟨e, List.mem_cons_self, hb, h⟩
   ·obtain ⟨e', h1, h2⟩ := ZmM h
    exact ⟨e', List.mem_cons_of_mem _ h1, h2⟩
  ·obtain ⟨e', h1, h2⟩ := ZmM h
   exact ⟨e', List.mem_cons_of_mem _ h1, h2⟩
theorem ZI1 {i : Nat} : ∀ {l : List Edge} {e : Edge}, e ∈ l → Region.binds .any e = true → e.on = i → tbit (emL l) i = true
 | [], e, h, _, _ => by simp at h
 | e' :: l, e, h, hb, hi => by
  simp only [emL]
  rcases List.mem_cons.1 h with rfl | h
  ·rw [hb]; simp only; rw [Zdh, Bool.or_eq_true, Nat.beq_eq]; exact .inl hi
  ·split
   ·rw [Zdh, Bool.or_eq_true]; exact .inr (ZI1 h hb hi)
   ·exact ZI1 h hb hi
theorem Zmr {q m : Nat} : ∀ {l : List Nat} {i : Nat}, tbit (ZDw l i m) q = true → ∃ j c, nth l j = some c ∧ tbit m (i + j) = true ∧ tbit c q = true
 | [], i, h => by simp [ZDw, ZjL] at h
 | c :: l, i, h => by
  simp only [ZDw] at h
  split at h
  ·rename_i hi
   rw [Zef, Bool.or_eq_true] at h
   rcases h with h | h
   ·exact ⟨0, c, rfl, hi, h⟩
   ·obtain ⟨j, c', h1, h2, h3⟩ := Zmr h
    exact ⟨j + 1, c', h1, by rw [show i + (j + 1) = i + 1 + j by omega]; exact h2, h3⟩
  ·obtain ⟨j, c', h1, h2, h3⟩ := Zmr h
   exact ⟨j + 1, c', h1, by rw [show i + (j + 1) = i + 1 + j by omega]; exact h2, h3⟩
theorem ZmO {ops : List Oper} : ∀ (l : List Oper) (acc : List Nat), (∀ k o, nth l k = some o → nth ops (acc.length + k) = some o) → (∀ j c q, nth acc j = some c → tbit c q = true → Waits ops q j) →
  ∀ j c q, nth (ZfU l acc) j = some c → tbit c q = true → Waits ops q j
 | [], acc, _, h, j, c, q, h1, h2 => h j c q h1 h2
 | o :: l, acc, hl, h, j, c, q, h1, h2 => by
  refine ZmO l _ (fun k o' hk => ?_) (fun j c q h1 h2 => ?_) j c q h1 h2
  ·have := hl (k + 1) o' hk
   rw [List.length_append, List.length_singleton, Nat.add_assoc, Nat.add_comm 1]; exact this
  ·rcases ZM h1 with h1 | ⟨rfl, rfl⟩
   ·exact h j c q h1 h2
   ·have ho : nth ops acc.length = some o := hl 0 o rfl
    rw [Zef, Bool.or_eq_true] at h2
    rcases h2 with h2 | h2
    ·obtain ⟨e, e1, e2, e3⟩ := ZmM h2
     exact .one _ o e ho (by simpa using e1) e2 e3
    ·obtain ⟨j', c', e1, e2, e3⟩ := Zmr h2
     rw [Nat.zero_add] at e2
     obtain ⟨e, f1, f2, f3⟩ := ZmM e2
     have := h j' c' q e1 e3
     exact .more _ o e ho (by simpa using f1) f2 (f3 ▸ this)
theorem Zyr {ops : List Oper} {i j : Nat} (h : rch (ZfU ops []) i j = true) : Waits ops i j := by
 unfold rch at h
 split at h
 ·rename_i m hm
  exact ZmO ops [] (fun k o hk => by simpa using hk) (fun j c q h1 => by simp [Zy] at h1) j m i hm h
 ·simp at h
theorem Zr1 {c : Option Bool} {s : St} {t : RT Out} (h : (chkT c s t).val.k ≠ .stop) : c ≠ some false ∧ (chkT c s t).val = t.val := by
 cases c with
 | none => exact ⟨by simp, rfl⟩
 | some b =>
  cases b with
  | true => exact ⟨by simp, rfl⟩
  | false => exact absurd rfl h
theorem ZDA {ops : List Oper} {s : St} {g : Option (Nat × Bool)} {run skip : St → RT Out} (h : (Zn5 ops s g run skip).val.k ≠ .stop) :
  ∃ s1 w, ZiW ops s g s1 w ∧ (Zn5 ops s g run skip).val = (match w with | true => run s1 | false => skip s1).val := by
 unfold Zn5 at h ⊢
 split
 ·exact ⟨s, true, ⟨rfl, rfl⟩, rfl⟩
 ·rename_i j want
  simp only at h
  split
  ·rename_i o ho
   rw [ho] at h
   simp only at h
   split
   ·rename_i d hd
    rw [hd] at h
    simp only at h
    split
    ·rename_i b hs
     refine ⟨s, b == want, ⟨o, d, ho, hd, .inl ⟨b, hs, rfl, rfl⟩⟩, ?_⟩
     cases b == want <;> rfl
    ·rename_i b hs
     refine ⟨_, b == want, ⟨o, d, ho, hd, .inr (.inl ⟨b, hs, rfl, rfl⟩)⟩, ?_⟩
     cases b <;> cases want <;> rfl
    ·rename_i hs
     exact ⟨s, false, ⟨o, d, ho, hd, .inr (.inr ⟨hs, rfl, rfl⟩)⟩, rfl⟩
    ·rename_i h1 h2 h3
     exfalso
     split at h
     ·rename_i b hs; exact h1 b hs
     ·rename_i b hs; exact h2 b hs
     ·rename_i hs; exact h3 hs
     ·exact h rfl
   ·rename_i hd
    rw [hd] at h
    exact absurd rfl h
  ·rename_i ho
   rw [ho] at h
   exact absurd rfl h
structure Ord (ops : List Oper) (T : Nat → Ty) (i : Nat) (cs rs : List (Nat × Option (Nat × Bool))) (k : Nat) : Prop where
 cc : ∀ q, q ∈ cs → (T (i + k)).isChain → Waits ops q.1 (i + k)
 cr : ∀ q, q ∈ cs → (T (i + k)).isRead → Zc0 q.2 (T (i + k)).loc = false → Waits ops q.1 (i + k)
 rc : ∀ q, q ∈ rs → (T (i + k)).isChain → Zc0 (T (i + k)).touch q.2 = false → Waits ops q.1 (i + k)
 bd : ∀ k', k' < k → (T (i + k')).bound (T (i + k)) → Waits ops (i + k') (i + k)
theorem ZGq {E : Env} {chg : Bool} {cls : List Nat} {ops : List Oper} (hcls : ∀ q i, rch cls q i = true → Waits ops q i) : ∀ (rest : List Oper) (i : Nat) (cs rs : List (Nat × Option (Nat × Bool))) (s : St), (ZdL E chg cls ops rest i cs rs s).val.k ≠ .stop →
  ∃ (S : Nat → St) (T : Nat → Ty), S i = s ∧ (ZdL E chg cls ops rest i cs rs s).val = ⟨.normal, S (i + rest.length)⟩ ∧ (∀ k o, nth rest k = some o → Zhy E chg ops (S (i + k)) (T (i + k)) o (S (i + k + 1))) ∧
   ∀ k, k < rest.length → Ord ops T i cs rs k
 | [], i, cs, rs, s, _ => ⟨fun _ => s, fun _ => .skip, rfl, rfl, fun k o h => by simp [Zy] at h, fun k h => by simp at h⟩
 | o :: rest, i, cs, rs, s, h => by
  simp only [ZdL] at h ⊢
  obtain ⟨s1, w, hg, hv⟩ := ZDA h
  rw [hv] at h ⊢
  have fin : ∀ (ty : Ty) (s' : St) (cs' rs' : List (Nat × Option (Nat × Bool))), Zhy E chg ops s ty o s' → (ZdL E chg cls ops rest (i + 1) cs' rs' s').val.k ≠ .stop → (∀ q, q ∈ cs → q ∈ cs') → (∀ q, q ∈ rs → q ∈ rs') →
    (ty.isChain → (i, ty.touch) ∈ cs' ∧ (∀ q, q ∈ cs → Waits ops q.1 i) ∧ ∀ q, q ∈ rs → Zc0 ty.touch q.2 = false → Waits ops q.1 i) → (ty.isRead → (i, ty.loc) ∈ rs' ∧ ∀ q, q ∈ cs → Zc0 q.2 ty.loc = false → Waits ops q.1 i) →
    ∃ (S : Nat → St) (T : Nat → Ty), S i = s ∧ (ZdL E chg cls ops rest (i + 1) cs' rs' s').val = ⟨.normal, S (i + (o :: rest).length)⟩ ∧ (∀ k o', nth (o :: rest) k = some o' → Zhy E chg ops (S (i + k)) (T (i + k)) o' (S (i + k + 1))) ∧
     ∀ k, k < (o :: rest).length → Ord ops T i cs rs k := by
   intro ty s' cs' rs' hst hk hcs hrs hch hrd
   obtain ⟨S, T, h1, h2, h3, h4⟩ := ZGq hcls rest (i + 1) cs' rs' s' hk
   have hi1 : ∀ k, i + (k + 1) = i + 1 + k := fun k => by omega
   refine ⟨fun k => if k = i then s else S k, fun k => if k = i then ty else T k, if_pos rfl, ?_, fun k o' hk' => ?_, fun k hk' => ?_⟩
   ·rw [h2]
    show _ = Out.mk .normal (if i + (o :: rest).length = i then s else S (i + (o :: rest).length))
    rw [if_neg (by simp), List.length_cons, hi1 rest.length]
   ·cases k with
    | zero =>
     simp only [nth, oinj] at hk'; subst hk'
     have e1 : (if i + 0 = i then s else S (i + 0)) = s := if_pos rfl
     have e2 : (if i + 0 = i then ty else T (i + 0)) = ty := if_pos rfl
     have e3 : (if i + 0 + 1 = i then s else S (i + 0 + 1)) = s' := by rw [if_neg (by omega)]; exact h1
     simp only [e1, e2, e3]; exact hst
    | succ k =>
     have := h3 k o' hk'
     show Zhy E chg ops (if i + (k + 1) = i then s else S (i + (k + 1))) (if i + (k + 1) = i then ty else T (i + (k + 1))) o' (if i + (k + 1) + 1 = i then s else S (i + (k + 1) + 1))
     rw [if_neg (by omega), if_neg (by omega), if_neg (by omega), hi1 k]; exact this
   ·have t0 : (if i + 0 = i then ty else T (i + 0)) = ty := if_pos rfl
    have ts : ∀ k, (if i + (k + 1) = i then ty else T (i + (k + 1))) = T (i + 1 + k) := fun k => by rw [if_neg (by omega), hi1 k]
    cases k with
    | zero =>
     refine ⟨fun q hq hc => ?_, fun q hq hc ha => ?_, fun q hq hc ha => ?_, fun k' hk' => by omega⟩
     ·simp only [t0] at hc; exact (hch hc).2.1 q hq
     ·simp only [t0] at hc ha; exact (hrd hc).2 q hq ha
     ·simp only [t0] at hc ha; exact (hch hc).2.2 q hq ha
    | succ k =>
     have q := h4 k (by simpa using hk')
     refine ⟨fun p hp hc => ?_, fun p hp hc ha => ?_, fun p hp hc ha => ?_, fun k' hk'' hb => ?_⟩
     ·simp only [ts] at hc; rw [hi1 k]; exact q.cc p (hcs p hp) hc
     ·simp only [ts] at hc ha; rw [hi1 k]; exact q.cr p (hcs p hp) hc ha
     ·simp only [ts] at hc ha; rw [hi1 k]; exact q.rc p (hrs p hp) hc ha
     ·rw [hi1 k]
      cases k' with
      | zero =>
       simp only [t0, ts] at hb
       rcases hb with ⟨h1, h2⟩ | ⟨h1, h2, h3⟩ | ⟨h1, h2, h3⟩
       ·exact q.cc _ (hch h2).1 h1
       ·exact q.rc _ (hrd h2).1 h1 h3
       ·exact q.cr _ (hch h2).1 h1 h3
      | succ k' =>
       simp only [ts] at hb
       rw [hi1 k']
       exact q.bd k' (by omega) hb
  cases w with
  | false =>
   simp only at h ⊢
   exact fin .skip _ cs rs ⟨s1, false, hg, rfl, rfl⟩ h (fun _ h => h) (fun _ h => h) (fun h => h.elim) (fun h => h.elim)
  | true =>
   simp only at h ⊢
   split at h
   ·rename_i chk v hfr
    obtain ⟨q1, q2⟩ := Zr1 h
    rw [q2] at h ⊢
    exact fin (.free v) _ cs rs ⟨s1, true, hg, rfl, chk, hfr, q1, rfl⟩ h (fun _ h => h) (fun _ h => h) (fun h => h.elim) (fun h => h.elim)
   ·rename_i hfr
    split at h
    ·split at h
     ·rename_i chk v hfr2
      split at h
      ·rename_i hall
       obtain ⟨q1, q2⟩ := Zr1 h
       rw [q2] at h ⊢
       refine fin (.read v _) _ cs (_ :: rs) ⟨s1, true, hg, rfl, rfl, rfl, chk, hfr2, q1, rfl⟩ h (fun _ h => h) (fun _ h => List.mem_cons_of_mem _ h) (fun h => h.elim) (fun _ => ⟨List.mem_cons_self, fun q hq ha => ?_⟩)
       have := List.all_eq_true.1 hall q hq
       simp only [Ty.loc] at ha
       rw [ha, Bool.false_or] at this
       exact hcls _ _ this
      ·exact absurd rfl h
     ·split at h
      ·rename_i hall
       simp only [Bool.and_eq_true] at hall
       simp only [RT.val_bind] at h ⊢
       cases hr : (ZaD E (mask s1 o) o).val with
       | none => rw [hr] at h; exact absurd rfl h
       | some r =>
        rw [hr] at h
        simp only [ZPA] at h ⊢
        obtain ⟨q1, q2⟩ := Zr1 h
        rw [q2] at h ⊢
        refine fin (.chain r _) _ (_ :: cs) rs ⟨s1, true, hg, rfl, rfl, rfl, hr, q1, rfl⟩ h (fun _ h => List.mem_cons_of_mem _ h) (fun _ h => h) (fun _ => ⟨List.mem_cons_self, fun q hq => hcls _ _ (List.all_eq_true.1 hall.1 q hq), fun q hq ha => ?_⟩) (fun h => h.elim)
        have := List.all_eq_true.1 hall.2 q hq
        simp only [Ty.touch] at ha
        rw [ha, Bool.false_or] at this
        exact hcls _ _ this
      ·exact absurd rfl h
    ·exact absurd rfl h
theorem ZM0 {t : Nat} : ∀ {l : List Nat}, t ∈ l → tbit (lmL l) t = true
 | [], h => by simp at h
 | a :: l, h => by
  simp only [lmL, Zdh, Bool.or_eq_true, Nat.beq_eq]
  rcases List.mem_cons.1 h with h | h
  ·exact .inl h.symm
  ·exact .inr (ZM0 h)
theorem ZAq {ops : Array Oper} {o : Oper} {t : Nat} (h : t ∈ o.looksAt ops) : tbit (ZDs ops.toList o) t = true := by
 unfold Oper.looksAt at h
 have hl : t ∈ ZrE o → tbit (lmL (ZrE o)) t = true := ZM0
 unfold ZDs
 rcases List.mem_append.1 h with h | h
 ·have := hl h
  split
  ·split
   ·split
    ·rw [Zdh, this, Bool.or_true]
    ·exact this
   ·exact this
  ·exact this
 ·split
  ·rename_i g _ hg
   rw [hg] at h
   simp only [Zt, Array.getElem?_toList] at h ⊢
   cases hq : ops[g]? with
   | none => rw [hq] at h; simp at h
   | some q =>
    rw [hq] at h
    simp only [Option.bind_some] at h ⊢
    cases hd : q.dst with
    | none => rw [hd] at h; simp at h
    | some d =>
     rw [hd] at h
     simp at h; subst h
     simp only; rw [Zdh]; simp
  ·rename_i hg
   rw [hg] at h; simp at h
theorem ZJp {ops : Array Oper} {a b : Oper} (h : Zut ⟨a.dst, ZDs ops.toList a, emL a.after.toList⟩ ⟨b.dst, ZDs ops.toList b, emL b.after.toList⟩ = true) : a.apart ops b = true := by
 simp only [Zut, Bool.and_eq_true, Bool.not_eq_true'] at h
 obtain ⟨⟨h1, h2⟩, h3⟩ := h
 unfold Oper.apart
 rw [Bool.and_eq_true]
 constructor
 ·cases hd : a.dst with
  | none => rfl
  | some d =>
   rw [hd] at h1 h2
   simp only [Bool.and_eq_true, Bool.not_eq_true', bne_iff_ne, ne_eq]
   constructor
   ·rw [Bool.eq_false_iff]; intro hc
    rw [List.contains_iff_mem] at hc
    have := ZAq hc
    simp only [ZLA] at h1
    rw [this] at h1; simp at h1
   ·intro e; rw [e] at h2; simp [ZQ3] at h2
 ·cases hd : b.dst with
  | none => rfl
  | some d =>
   rw [hd] at h3
   simp only [Bool.not_eq_true']
   rw [Bool.eq_false_iff]; intro hc
   rw [List.contains_iff_mem] at hc
   have := ZAq hc
   simp only [ZLA] at h3
   rw [this] at h3; simp at h3
theorem Zmw {ops : List Oper} : ∀ {l : List Oper} {j : Nat} {o : Oper}, nth l j = some o → nth (ZPg ops l) j = some ⟨o.dst, ZDs ops o, emL o.after.toList⟩
 | [], j, o, h => by simp [Zy] at h
 | a :: l, 0, o, h => by simp only [nth, oinj] at h; subst h; rfl
 | a :: l, j + 1, o, h => Zmw (l := l) h
theorem ZnP {a : OI} {j : Nat} : ∀ {l : List OI} {k : Nat} {b : OI}, Zte a j l = true → nth l k = some b → tbit b.em j = true ∨ Zut a b = true
 | [], k, b, _, h => by simp [Zy] at h
 | c :: l, 0, b, hp, h => by
  simp only [nth, oinj] at h; subst h
  simp only [Zte, Bool.and_eq_true, Bool.or_eq_true] at hp; exact hp.1
 | c :: l, k + 1, b, hp, h => by
  simp only [Zte, Bool.and_eq_true] at hp
  exact ZnP hp.2 h
theorem ZAt : ∀ {l : List OI} {i k : Nat} {a : OI}, lexI i l = true → nth l k = some a → a.em < 2 ^ (i + k) ∧ ∀ m b, k < m → nth l m = some b → tbit b.em (i + k) = true ∨ Zut a b = true
 | [], i, k, a, _, h => by simp [Zy] at h
 | c :: l, i, 0, a, hl, h => by
  simp only [nth, oinj] at h; subst h
  simp only [lexI, Bool.and_eq_true, Nat.blt_eq] at hl
  refine ⟨?_, fun m b hm hb => ?_⟩
  ·have := hl.1.1
   have e : Nat.shiftLeft 1 i = 2 ^ i := by
    have : Nat.shiftLeft 1 i = 1 <<< i := rfl
    rw [this, Nat.one_shiftLeft]
   rw [e] at this; simpa using this
  ·cases m with
   | zero => omega
   | succ m => exact ZnP hl.1.2 hb
 | c :: l, i, k + 1, a, hl, h => by
  simp only [lexI, Bool.and_eq_true] at hl
  obtain ⟨h1, h2⟩ := ZAt hl.2 h
  have e : i + (k + 1) = i + 1 + k := by omega
  rw [e]
  refine ⟨h1, fun m b hm hb => ?_⟩
  cases m with
  | zero => omega
  | succ m => exact h2 m b (by omega) hb
theorem Zmm {ops : Array Oper} (h : lexL ops.toList = true) : ∀ j oj, ops[j]? = some oj → (∀ e ∈ oj.after, Region.binds .any e = true → e.on < j) ∧
  ∀ l ol, j < l → ops[l]? = some ol → (∀ e ∈ ol.after, Region.binds .any e = true → e.on ≠ j) → oj.apart ops ol = true := by
 intro j oj ho
 have ho' : nth ops.toList j = some oj := by rw [Zt]; simpa using ho
 obtain ⟨h1, h2⟩ := ZAt h (Zmw ho')
 rw [Nat.zero_add] at h1 h2
 refine ⟨fun e he hb => ?_, fun l ol hlt hol hno => ?_⟩
 ·have := ZI1 (l := oj.after.toList) (by simpa using he) hb rfl
  rcases Nat.lt_or_ge e.on j with h | h
  ·exact h
  ·exfalso
   rw [Zgb] at this
   have h3 : emL oj.after.toList < 2 ^ e.on := Nat.lt_of_lt_of_le h1 (Nat.pow_le_pow_right (by decide) h)
   rw [Nat.testBit_lt_two_pow h3] at this; simp at this
 ·have hol' : nth ops.toList l = some ol := by rw [Zt]; simpa using hol
  rcases h2 l _ hlt (Zmw hol') with h3 | h3
  ·exfalso
   obtain ⟨e, e1, e2, e3⟩ := ZmM h3
   exact hno e (by simpa using e1) e2 e3
  ·exact ZJp h3
theorem Zm5 {ops : List Oper} {a : Act} {j d : Nat} {o : Oper} (h1 : nth ops j = some o) (h2 : o.dst = some d) :
  yielded ops.toArray a.tmps j = match a.tmps.getD d undef with | .bool b => some b | _ => none := by
 rw [Zt] at h1
 simp only [yielded, List.getElem?_toArray, h1, Option.bind_some, h2]
 rw [Array.getD_eq_getD_getElem?]
 cases a.tmps[d]? with
 | none => rfl
 | some v => cases v <;> rfl
theorem Zb4 (s : St) (d : Option Nat) (v : V) : (put s d v).slots.length = s.slots.length := by cases d <;> simp [put, ZO]
theorem ZbZ {ops : List Oper} {s s1 : St} {g : Option (Nat × Bool)} {w : Bool} (h : ZiW ops s g s1 w) : s1.slots.length = s.slots.length ∧ s1.mem = s.mem := by
 unfold ZiW at h
 split at h
 ·obtain ⟨rfl, _⟩ := h; exact ⟨rfl, rfl⟩
 ·obtain ⟨o, d, _, _, h⟩ := h
  rcases h with ⟨b, _, rfl, _⟩ | ⟨b, _, rfl, _⟩ | ⟨_, rfl, _⟩
  ·exact ⟨rfl, rfl⟩
  ·exact ⟨Zb4 _ _ _, rfl⟩
  ·exact ⟨rfl, rfl⟩
theorem Zmy {ops : List Oper} {s s1 : St} {g : Option (Nat × Bool)} {w : Bool} (h : ZiW ops s g s1 w) {x : Ctx} {t : Nat} {u : Value} (hu : ∀ v, nth s.slots t = some v → RV x v u) : ∀ v, nth s1.slots t = some v → RV x v u := by
 unfold ZiW at h
 split at h
 ·obtain ⟨rfl, _⟩ := h; exact hu
 ·obtain ⟨o, d, _, _, h⟩ := h
  rcases h with ⟨b, _, rfl, _⟩ | ⟨b, hb, rfl, _⟩ | ⟨_, rfl, _⟩
  ·exact hu
  ·intro v hv
   rcases ZdO hv with ⟨rfl, rfl, _⟩ | ⟨_, hv⟩
   ·have := Zcf (show RA x (.bool false b) u from hu _ hb)
    subst this; exact .bool _ _ _
   ·exact hu v hv
  ·exact hu
theorem ZrO {ops : List Oper} {s s1 : St} {o : Oper} {w : Bool} {a : Act} {x : Ctx} (h : ZiW ops s o.guard s1 w)
  (hu : ∀ j want oj d, o.guard = some (j, want) → nth ops j = some oj → oj.dst = some d → ∀ v, nth s.slots d = some v → RV x v (a.tmps.getD d undef)) : Region.wanted o (yielded ops.toArray a.tmps) = w := by
 unfold ZiW at h
 split at h
 ·rename_i hg
  simp [Region.wanted, hg, h.2]
 ·rename_i j want hg
  obtain ⟨oj, d, hj, hd, h⟩ := h
  have hy := Zm5 (a := a) hj hd
  have hw : Region.wanted o (yielded ops.toArray a.tmps) = ((match a.tmps.getD d undef with | .bool b => some b | _ => none) == some want) := by simp only [Region.wanted, hg, hy]
  have hu' := hu j want oj d hg hj hd
  rcases h with ⟨b, hb, _, rfl⟩ | ⟨b, hb, _, rfl⟩ | ⟨hb, _, rfl⟩
  ·have := Zcf (show RA x (.bool true b) _ from hu' _ hb)
   rw [hw, this]; cases b <;> cases want <;> rfl
  ·have := Zcf (show RA x (.bool false b) _ from hu' _ hb)
   rw [hw, this]; cases b <;> cases want <;> rfl
  ·obtain ⟨C, hC, _⟩ := hu' _ hb
   rw [hw, hC]; rfl
theorem ZtN (ts : List Nat) : ∀ (i : Nat) (l : List V), (ZtO ts i l).length = l.length
 | _, [] => rfl
 | i, v :: l => by simp [ZtO, ZtN ts (i + 1) l]
theorem ZtM (ts : List Nat) : ∀ (i : Nat) (l : List V) (j : Nat) (v : V), nth (ZtO ts i l) j = some v → (memN ts (i + j) = true ∧ nth l j = some v) ∨ v = .w .junk
 | _, [], j, v, h => by simp [ZtO, Zy] at h
 | i, u :: l, 0, v, h => by
  simp only [ZtO, nth, oinj] at h
  split at h
  ·rename_i hm; exact .inl ⟨by simpa using hm, by simp [nth, h]⟩
  ·exact .inr h.symm
 | i, u :: l, j + 1, v, h => by
  simp only [ZtO, nth] at h
  rcases ZtM ts (i + 1) l j v h with ⟨h1, h2⟩ | h1
  ·exact .inl ⟨by rw [show i + (j + 1) = i + 1 + j by omega]; exact h1, h2⟩
  ·exact .inr h1
theorem ZOY {x : Ctx} {s : St} {o : Oper} {a : Act} (hs : s.slots.length = a.tmps.size) (h : ∀ t, t ∈ ZrE o → ∀ v, nth s.slots t = some v → RV x v (a.tmps.getD t undef)) : RF x (mask s o).slots a.tmps := by
 refine ⟨by simp only [mask, ZtN]; exact hs, fun i v hv => ?_⟩
 rcases ZtM _ 0 _ i v hv with ⟨h1, h2⟩ | h1
 ·rw [Nat.zero_add, ZAh] at h1
  exact h i h1 v h2
 ·subst h1; trivial
theorem ZiV {P : Program} {s : St} {ts : List TypeId} {vs : List V} {r : Res} (h : ZcF P s .append ts vs = some r) : r.m.boxes = s.mem.boxes := by
 unfold ZcF at h
 split at h
 all_goals first
  | (simp at *; done)
  | skip
 rename_i t t' x y _ _ _
 unfold Zip at h
 repeat' (split at h)
 all_goals first
  | (simp at h; done)
  | (simp only [oinj] at h; subst h; rfl)
theorem Zev {s s' : St} {a b : A} (h : Zaq s a = some (b, s')) : s'.mem.boxes = s.mem.boxes := by
 unfold Zaq at h
 repeat' (split at h)
 all_goals first
  | (simp at h; done)
  | (simp only [oinj, pinj] at h; obtain ⟨_, rfl⟩ := h; rfl)
theorem Zet : ∀ {l l' : List A} {s s' : St}, Zap s l = some (l', s') → s'.mem.boxes = s.mem.boxes
 | [], _, _, _, h => by simp only [Zap, oinj, pinj] at h; obtain ⟨_, rfl⟩ := h; rfl
 | a :: l, _, s, s', h => by
  simp only [Zap] at h
  split at h
  ·rename_i b s1 h1
   split at h
   ·rename_i r s2 h2
    simp only [oinj, pinj] at h; obtain ⟨_, rfl⟩ := h
    rw [Zet h2, Zev h1]
   ·simp at h
  ·simp at h
theorem ZrQ {s s' : St} {a b : W} (h : Zaz s a = some (b, s')) : s'.mem.boxes = s.mem.boxes := by
 unfold Zaz at h
 repeat' (split at h)
 all_goals first
  | (simp at h; done)
  | (rename_i h1; simp only [oinj, pinj] at h; obtain ⟨_, rfl⟩ := h; exact Zev h1)
  | (rename_i h1; simp only [oinj, pinj] at h; obtain ⟨_, rfl⟩ := h; exact Zet h1)
  | (simp only [oinj, pinj] at h; obtain ⟨_, rfl⟩ := h; rfl)
theorem ZrR {s s' : St} {a b : V} (h : ZaU s a = some (b, s')) : s'.mem.boxes = s.mem.boxes := by
 unfold ZaU at h
 repeat' (split at h)
 all_goals first
  | (simp at h; done)
  | (rename_i h1; simp only [oinj, pinj] at h; obtain ⟨_, rfl⟩ := h; exact ZrQ h1)
  | (simp only [oinj, pinj] at h; obtain ⟨_, rfl⟩ := h; rfl)
theorem Zf7 : ∀ {l l' : List V} {s s' : St}, Z8 s l = some (l', s') → s'.mem.boxes = s.mem.boxes
 | [], _, _, _, h => by simp only [Z8, oinj, pinj] at h; obtain ⟨_, rfl⟩ := h; rfl
 | a :: l, _, s, s', h => by
  simp only [Z8] at h
  split at h
  ·rename_i b s1 h1
   split at h
   ·rename_i r s2 h2
    simp only [oinj, pinj] at h; obtain ⟨_, rfl⟩ := h
    rw [Zf7 h2, ZrR h1]
   ·simp at h
  ·simp at h
theorem Zeu : ∀ {l l' : List (Nat × Option (List A))} {s s' : St}, Zbb s l = some (l', s') → s'.mem.boxes = s.mem.boxes
 | [], _, _, _, h => by simp only [Zbb, oinj, pinj] at h; obtain ⟨_, rfl⟩ := h; rfl
 | (i, some a) :: l, _, s, s', h => by
  simp only [Zbb] at h
  split at h
  ·rename_i b s1 h1
   split at h
   ·rename_i r s2 h2
    simp only [oinj, pinj] at h; obtain ⟨_, rfl⟩ := h
    rw [Zeu h2, Zet h1]
   ·simp at h
  ·simp at h
 | (i, none) :: l, _, s, s', h => by simp [Zbb] at h
theorem ZiZ {E : Env} {s : St} {t : TypeId} {n : Nat} {parts : Array (Nat × Operand)} {r : Res} (h : evOp E s (.buildSlice t n parts) = some r) : r.m.boxes = s.mem.boxes := by
 simp only [evOp] at h
 split at h
 ·unfold Zex at h
  split at h
  ·rename_i ps s' h1
   rw [← Zeu h1]
   unfold ZcC at h
   repeat' (split at h)
   all_goals first
    | (simp at h; done)
    | (simp only [oinj] at h; subst h; rfl)
  ·simp at h
 ·unfold ZdC at h
  split at h
  ·rename_i ps s' h1
   rw [← Zeu h1]
   unfold ZcD at h
   repeat' (split at h)
   all_goals first
    | (simp at h; done)
    | (simp only [oinj] at h; subst h; rfl)
  ·simp at h
theorem ZuI {E : Env} {s : St} {t : TypeId} {x : Operand} {lo hi mx : Option Operand} {r : Res} (h : evOp E s (.slice t x lo hi mx) = some r) : r.m.boxes = s.mem.boxes := by
 simp only [evOp] at h
 split at h
 ·unfold Znh at h
  split at h
  ·rename_i x' s' h1
   rw [← Zev h1]
   split at h
   ·simp at h
   ·unfold sliceB at h
    repeat' (split at h)
    all_goals first
     | (simp at h; done)
     | (simp only [oinj] at h; subst h; rfl)
  ·simp at h
 ·simp at h
theorem Znb {E : Env} (hE : Zbl E) {s : St} {o : Oper} {r : Res} {b' : Nat} {st : Bool} (h : (ZaD E s o).val = some r) (ht : ZjK E s o = some (b', st)) : s.mem.boxes.length ≤ r.m.boxes.length ∧ (st = false → r.m.stgs = s.mem.stgs) ∧ ∀ b, b ≠ b' → b < s.mem.boxes.length → nth r.m.boxes b = nth s.mem.boxes b := by
 have nb : ∀ (l : List A), (Zg7 s l).m.boxes = s.mem.boxes ++ [l] := fun l => rfl
 have app : ∀ (l : List A), s.mem.boxes.length ≤ (Zg7 s l).m.boxes.length ∧ (st = false → (Zg7 s l).m.stgs = s.mem.stgs) ∧ ∀ b, b ≠ b' → b < s.mem.boxes.length → nth (Zg7 s l).m.boxes b = nth s.mem.boxes b := fun l =>
  ⟨by rw [nb]; simp, fun _ => rfl, fun b _ hb => by rw [nb, Zt, Zt, List.getElem?_append_left hb]⟩
 unfold ZjK at ht
 split at ht
 ·rename_i t p x ho
  split at ht
  ·rename_i b0 o0 hp
   simp only [oinj, pinj] at ht; obtain ⟨rfl, rfl⟩ := ht
   unfold ZaD at h
   rw [ho] at h
   simp only [RT.val, evOp, hp] at h
   split at h
   ·rename_i p' l hp' _
    simp only [oinj] at hp'; subst hp'
    simp only [Zsn] at h
    split at h
    ·simp at h
    ·split at h
     ·simp at h
     ·split at h
      ·simp at h
      ·split at h
       ·simp at h
       ·simp only [oinj] at h; subst h
        exact ⟨by simp [ZO], fun _ => rfl, fun b hb _ => by rw [ZL (fun e => hb e.symm)]⟩
   ·simp at h
  ·simp at ht
 ·rename_i t ho
  simp only [oinj, pinj] at ht; obtain ⟨rfl, rfl⟩ := ht
  unfold ZaD at h
  rw [ho] at h
  simp only [RT.val, evOp, Option.map_eq_some_iff] at h
  obtain ⟨l, _, rfl⟩ := h
  exact app l
 ·rename_i t x ho
  simp only [oinj, pinj] at ht; obtain ⟨rfl, rfl⟩ := ht
  unfold ZaD at h
  rw [ho] at h
  simp only [RT.val, evOp, Option.map_eq_some_iff] at h
  obtain ⟨l, _, rfl⟩ := h
  exact app l
 ·rename_i c ho
  split at ht
  ·rename_i hcal
   simp only [oinj, pinj] at ht; obtain ⟨rfl, rfl⟩ := ht
   unfold ZaD at h
   rw [ho] at h
   simp only [hcal] at h
   have hb := h
   split at h
   ·rename_i vs hvs
    simp only [RT.val] at h
    exact ⟨Nat.le_of_eq (by rw [ZiV h]), fun e => by simp at e, fun b _ _ => by rw [ZiV h]⟩
   ·simp [RT.val] at h
  ·rename_i f hcal
   split at ht
   ·rename_i g hg
    split at ht
    ·rename_i vs hvs
     obtain ⟨b0, hb0, hbe⟩ := Option.map_eq_some_iff.1 ht
     simp only [pinj] at hbe
     obtain ⟨rfl, rfl⟩ := hbe
     have hc : ZaL E s c = some (.tree g, []) := by
      unfold ZaL; rw [hcal]; simp only [opd1, opd, Option.bind_some, V.one, hg, List.map_nil, Entry.plain]
     unfold ZaD at h
     rw [ho] at h
     simp only [hcal, hc, hvs, List.append_nil] at h
     rw [RT.val_map] at h
     split at h
     ·rename_i r0 hr0
      simp only [oinj] at h; subst h
      obtain ⟨b1, h1, h2, h3, h4⟩ := (hE f _ hg).2 vs s.mem r0 hr0
      rw [hb0] at h1
      simp only [oinj] at h1; subst h1
      exact ⟨h3, fun _ => h2, fun b hb _ => h4 b hb⟩
     ·simp at h
    ·simp at ht
   ·rename_i p hg
    simp only [oinj, pinj] at ht; obtain ⟨rfl, rfl⟩ := ht
    have hc : ZaL E s c = some (.pure p, []) := by
     unfold ZaL; rw [hcal]; simp only [opd1, opd, Option.bind_some, V.one, hg, List.map_nil, Entry.plain]
    unfold ZaD at h
    rw [ho] at h
    simp only [hcal, hc] at h
    split at h
    ·rename_i p' caps vs hp' hvs
     simp only [oinj, pinj, Entry.pure.injEq] at hp'
     obtain ⟨rfl, rfl⟩ := hp'
     split at h
     ·rename_i vs' s' hfz
      split at h
      ·simp only [RT.val, oinj] at h; subst h
       have hb := Zf7 hfz
       exact ⟨Nat.le_of_eq (by simp only [ofSt]; rw [hb]), fun e => by simp at e, fun b _ _ => by simp only [ofSt]; rw [hb]⟩
      ·simp [RT.val] at h
     ·simp [RT.val] at h
    ·rename_i hp' _; simp at hp'
    ·rename_i hp' _; simp at hp'
    ·simp [RT.val] at h
   ·simp at ht
  ·simp at ht
 ·rename_i ho
  simp only [oinj, pinj] at ht; obtain ⟨rfl, rfl⟩ := ht
  unfold ZaD at h
  rw [ho] at h
  simp only [RT.val] at h
  have hb := ZuI h
  exact ⟨Nat.le_of_eq (by rw [hb]), fun e => by simp at e, fun b _ _ => by rw [hb]⟩
 ·rename_i ho
  simp only [oinj, pinj] at ht; obtain ⟨rfl, rfl⟩ := ht
  unfold ZaD at h
  rw [ho] at h
  simp only [RT.val] at h
  have hb := ZiZ h
  exact ⟨Nat.le_of_eq (by rw [hb]), fun e => by simp at e, fun b _ _ => by rw [hb]⟩
 ·simp at ht
theorem Zne {m m' : Mem} (h : m'.stgs = m.stgs) (hh ver : Nat) : Zbj m' hh ver = Zbj m hh ver := by unfold Zbj; rw [h]
theorem Zuc {m m' : Mem} (h : m'.stgs = m.stgs) (a : A) : Zcy m' a = Zcy m a := by
 cases a <;> simp only [Zcy]
 rw [Zne h]
theorem Zub {m m' : Mem} (h : m'.stgs = m.stgs) (v : V) : ZbN m' v = ZbN m v := by
 have hf : Zcy m' = Zcy m := funext (Zuc h)
 cases v with
 | w w => cases w <;> simp only [ZbN, hf]
 | tup t => rfl
theorem ZiM {s s' t : St} (h : s'.mem.stgs = s.mem.stgs) {a b : A} (hf : Zaq s a = some (b, t)) : ∃ t', Zaq s' a = some (b, t') ∧ t'.mem.stgs = t.mem.stgs := by
 cases a with
 | tip hh ver =>
  simp only [Zaq] at hf ⊢
  rw [Zne h]
  cases hg : Zbj s.mem hh ver with
  | none => rw [hg] at hf; simp at hf
  | some g =>
   rw [hg] at hf
   simp only at hf ⊢
   cases hz : g.ffz with
   | true =>
    rw [hz] at hf
    simp only [oinj, pinj] at hf ⊢
    obtain ⟨rfl, rfl⟩ := hf
    exact ⟨s', ⟨rfl, rfl⟩, h⟩
   | false =>
    rw [hz] at hf
    simp only [oinj, pinj] at hf ⊢
    obtain ⟨rfl, rfl⟩ := hf
    exact ⟨_, ⟨rfl, rfl⟩, by simp only [h]⟩
 | sp _ _ _ _ => simp [Zaq] at hf
 | _ =>
  simp only [Zaq, oinj, pinj] at hf ⊢
  obtain ⟨rfl, rfl⟩ := hf
  exact ⟨s', ⟨rfl, rfl⟩, h⟩
theorem ZiK : ∀ {l r : List A} {s s' t : St}, s'.mem.stgs = s.mem.stgs → Zap s l = some (r, t) → ∃ t', Zap s' l = some (r, t') ∧ t'.mem.stgs = t.mem.stgs
 | [], _, s, s', t, h, hf => by
  simp only [Zap, oinj, pinj] at hf ⊢
  obtain ⟨rfl, rfl⟩ := hf
  exact ⟨s', ⟨rfl, rfl⟩, h⟩
 | a :: l, _, s, s', t, h, hf => by
  simp only [Zap] at hf ⊢
  split at hf
  ·rename_i b s1 h1
   split at hf
   ·rename_i r s2 h2
    simp only [oinj, pinj] at hf
    obtain ⟨rfl, rfl⟩ := hf
    obtain ⟨t1, e1, k1⟩ := ZiM h h1
    obtain ⟨t2, e2, k2⟩ := ZiK k1 h2
    exact ⟨t2, by rw [e1]; simp only [e2], k2⟩
   ·simp at hf
  ·simp at hf
theorem Zue {s s' t : St} (h : s'.mem.stgs = s.mem.stgs) {v r : V} (hf : ZaU s v = some (r, t)) : ∃ t', ZaU s' v = some (r, t') ∧ t'.mem.stgs = t.mem.stgs := by
 cases v with
 | tup l =>
  simp only [ZaU, oinj, pinj] at hf ⊢
  obtain ⟨rfl, rfl⟩ := hf
  exact ⟨s', ⟨rfl, rfl⟩, h⟩
 | w w =>
  cases w with
  | one a =>
   simp only [ZaU, Zaz] at hf ⊢
   cases h1 : Zaq s a with
   | none => rw [h1] at hf; simp at hf
   | some q =>
    obtain ⟨b, s1⟩ := q
    rw [h1] at hf
    simp only [oinj, pinj] at hf
    obtain ⟨rfl, rfl⟩ := hf
    obtain ⟨t1, e1, k1⟩ := ZiM h h1
    exact ⟨t1, by rw [e1], k1⟩
  | agg l =>
   simp only [ZaU, Zaz] at hf ⊢
   cases h1 : Zap s l with
   | none => rw [h1] at hf; simp at hf
   | some q =>
    obtain ⟨b, s1⟩ := q
    rw [h1] at hf
    simp only [oinj, pinj] at hf
    obtain ⟨rfl, rfl⟩ := hf
    obtain ⟨t1, e1, k1⟩ := ZiK h h1
    exact ⟨t1, by rw [e1], k1⟩
  | junk =>
   simp only [ZaU, Zaz, oinj, pinj] at hf ⊢
   obtain ⟨rfl, rfl⟩ := hf
   exact ⟨s', ⟨rfl, rfl⟩, h⟩
theorem Zhm : ∀ {l r : List V} {s s' t : St}, s'.mem.stgs = s.mem.stgs → Z8 s l = some (r, t) → ∃ t', Z8 s' l = some (r, t') ∧ t'.mem.stgs = t.mem.stgs
 | [], _, s, s', t, h, hf => by
  simp only [Z8, oinj, pinj] at hf ⊢
  obtain ⟨rfl, rfl⟩ := hf
  exact ⟨s', ⟨rfl, rfl⟩, h⟩
 | a :: l, _, s, s', t, h, hf => by
  simp only [Z8] at hf ⊢
  split at hf
  ·rename_i b s1 h1
   split at hf
   ·rename_i r s2 h2
    simp only [oinj, pinj] at hf
    obtain ⟨rfl, rfl⟩ := hf
    obtain ⟨t1, e1, k1⟩ := Zue h h1
    obtain ⟨t2, e2, k2⟩ := Zhm k1 h2
    exact ⟨t2, by rw [e1]; simp only [e2], k2⟩
   ·simp at hf
  ·simp at hf
theorem ZDt {E : Env} (hE : Zbl E) {s : St} {o : Oper} {m' : Mem} {b : Nat} {ns : Bool} {chk : Option Bool} {v : V} (h : Zcz E true s o = some (chk, v)) (hl : Zmj E s o = some (b, ns)) :
  ((∃ l, nth s.mem.boxes b = some l) ∧ (∃ p o', opd1 s p = some (.loc b o')) ∧ (nth m'.boxes b = nth s.mem.boxes b → (ns = true → m'.stgs = s.mem.stgs) → Zcz E true { s with mem := m' } o = some (chk, v))) ∨
   (ns = true ∧ (m'.stgs = s.mem.stgs → Zcz E true { s with mem := m' } o = some (chk, v))) := by
 unfold Zmj at hl
 split at hl
 ·rename_i t p ho
  split at hl
  ·rename_i b0 o0 hp
   simp only [oinj, pinj] at hl; obtain ⟨rfl, rfl⟩ := hl
   have hp' : ∀ m : Mem, opd1 { s with mem := m } p = some (.loc b0 o0) := fun m => by
    have : opd1 { s with mem := m } p = opd1 s p := by unfold opd1; cases p <;> rfl
    rw [this]; exact hp
   unfold Zcz ZaD at h ⊢
   rw [ho] at h ⊢
   simp only [Zm3, ZeL, ZjY, Bool.not_false, Bool.and_true, Bool.true_or, evOp, hp, Zx6, Zfv, Bool.or_true] at h
   cases hn : nth s.mem.boxes b0 with
   | none => rw [hn] at h; simp at h
   | some l =>
    refine .inl ⟨⟨l, rfl⟩, ⟨p, o0, hp⟩, fun hm _ => ?_⟩
    rw [hn] at h
    simp only [Zm3, ZeL, ZjY, Bool.not_false, Bool.and_true, Bool.true_or, evOp, hp', Zx6, Zfv, hm, Bool.or_true]
    simp only [Option.map_some] at h ⊢
    split at h
    ·rename_i r hr
     split at hr
     ·rename_i w hw
      simp only [valR, RT.leaf.injEq, oinj] at hr; subst hr
      simp only [oinj, pinj] at h
      obtain ⟨rfl, rfl⟩ := h
      rfl
     ·simp at hr
    ·simp at h
  ·simp at hl
 ·rename_i c ho
  split at hl
  ·rename_i f hcf
   split at hl
   ·rename_i g hg
    have hos : ∀ (l : List Operand), opds { s with mem := m' } l = opds s l := fun l => by
     induction l with
     | nil => rfl
     | cons x l ih =>
      simp only [opds, ih]
      have : opd { s with mem := m' } x = opd s x := by cases x <;> rfl
      rw [this]
    cases hvs : opds s c.args.toList with
    | none => rw [hvs] at hl; simp [Zmk] at hl
    | some vs =>
     rw [hvs] at hl
     unfold Zmk at hl
     split at hl
     ·rename_i b0 o0 l e
      simp only [oinj] at e
      split at hl
      ·rename_i hall
       simp only [Option.map_some, oinj, pinj] at hl
       obtain ⟨rfl, rfl⟩ := hl
       subst e
       simp only [Bool.and_eq_true, List.all_eq_true, Nat.blt_eq] at hall
       have hcal : ∀ m : Mem, ZaL E { s with mem := m } c = some (.read g, []) := fun m => by
        unfold ZaL; rw [hcf]; simp only [opd1, opd, Option.bind_some, V.one, hg, List.map_nil, Entry.plain]
       obtain ⟨p, ps, hps⟩ : ∃ p ps, c.args.toList = p :: ps := by
        cases hc : c.args.toList with
        | nil => rw [hc] at hvs; simp [opds] at hvs
        | cons p ps => exact ⟨p, ps, rfl⟩
       have hp : opd1 s p = some (.loc b0 o0) := by
        rw [hps] at hvs
        simp only [opds] at hvs
        split at hvs
        ·rename_i v r hv hr
         simp only [oinj, List.cons.injEq] at hvs
         unfold opd1; rw [hv, hvs.1]; rfl
        ·simp at hvs
       have hb : ∃ l, nth s.mem.boxes b0 = some l := ⟨_, by rw [Zt]; exact List.getElem?_eq_getElem (by simpa [Zak] using hall.2)⟩
       refine .inl ⟨hb, ⟨p, o0, hp⟩, fun hm hst => ?_⟩
       have hloc : ZJt g := by
        have := hE f _ hg
        exact this.2.1
       have hs0 : ZaL E s c = some (.read g, []) := hcal s.mem
       unfold Zcz at h ⊢
       rw [ho] at h ⊢
       have hc1 : Zm3 E (.call c) = false := by simp [Zm3, hcf, hg]
       have hc2 : ZjY E (.call c) = true := by simp [ZjY, hcf, hg]
       have hc3 : ∀ m : Mem, (opds { s with mem := m } c.args.toList = opds s c.args.toList) → ZeL E { s with mem := m } (.call c) = true := fun m hm => by
        simp only [ZeL, hcf, hcal m, hm, hvs]
       have hc4 : ZeL E s (.call c) = true := hc3 s.mem rfl
       simp only [hc1, hc2, hc4, hc3 m' (hos _), Bool.not_false, Bool.true_and, Bool.true_or] at h ⊢
       unfold ZaD at h ⊢
       rw [ho] at h ⊢
       simp only [hcf, hs0, hcal m', hvs, hos] at h ⊢
       cases hgm : g (V.w (.one (.loc b0 o0)) :: l ++ []) s.mem with
       | none => rw [hgm] at h; simp at h
       | some q =>
        have := hloc _ _ m' _ hgm (hst rfl) (fun b o hbo => by
         simp only [List.append_nil, List.mem_cons] at hbo
         rcases hbo with e | e
         ·simp only [V.w.injEq, W.one.injEq, A.loc.injEq] at e
          rw [e.1]; exact hm
         ·have := hall.1 _ e
          simp [ZQD] at this)
        rw [this]
        rw [hgm] at h
        exact h
      ·simp at hl
     ·simp at hl
   ·rename_i g hg
    simp only [oinj, pinj] at hl
    obtain ⟨_, rfl⟩ := hl
    refine .inr ⟨rfl, fun hst => ?_⟩
    have hos : ∀ (l : List Operand), opds { s with mem := m' } l = opds s l := fun l => by
     induction l with
     | nil => rfl
     | cons x l ih =>
      simp only [opds, ih]
      have : opd { s with mem := m' } x = opd s x := by cases x <;> rfl
      rw [this]
    have hcal : ∀ m : Mem, ZaL E { s with mem := m } c = some (.pure g, []) := fun m => by
     unfold ZaL; rw [hcf]; simp only [opd1, opd, Option.bind_some, V.one, hg, List.map_nil, Entry.plain]
    have hs0 : ZaL E s c = some (.pure g, []) := hcal s.mem
    have hc1 : Zm3 E (.call c) = false := by simp [Zm3, hcf, hg]
    have hc2 : ZjY E (.call c) = false := by simp [ZjY, hcf, hg]
    have hff : ZbN m' = ZbN s.mem := funext (Zub hst)
    unfold Zcz at h ⊢
    rw [ho] at h ⊢
    cases hvs : opds s c.args.toList with
    | none =>
     have : ZeL E s (.call c) = false := by simp only [ZeL, hcf, hs0, hvs]
     rw [hc1, hc2, this] at h
     simp at h
    | some vs =>
     have e1 : ZeL E { s with mem := m' } (.call c) = ZeL E s (.call c) := by
      simp only [ZeL, hcf, hcal, hs0, hos, hvs, hff]
     rw [hc1, hc2, e1]
     rw [hc1, hc2] at h
     cases hfz : ZeL E s (.call c) with
     | false => rw [hfz] at h; simp at h
     | true =>
      rw [hfz] at h
      simp only [Bool.not_false, Bool.and_self, Bool.or_true, Bool.true_or] at h ⊢
      unfold ZaD at h ⊢
      rw [ho] at h ⊢
      simp only [hcf, hs0, hcal, hvs, hos, List.append_nil] at h ⊢
      cases hz : Z8 s vs with
      | none => rw [hz] at h; simp at h
      | some q =>
       obtain ⟨r, t⟩ := q
       obtain ⟨t', e2, _⟩ := Zhm (s' := { s with mem := m' }) hst hz
       rw [hz] at h
       rw [e2]
       simp only at h ⊢
       cases hg2 : g r with
       | none => rw [hg2] at h; simp at h
       | some q => rw [hg2] at h; exact h
   ·simp at hl
  ·simp at hl
 ·simp at hl
section
variable {E : Env} {chg : Bool} {A : Array Oper} {S : Nat → St} {T : Nat → Ty}
def Za2 (listed : Array Bool) (i : Nat) : Prop := listed.getD i false = true
structure Inv (A : Array Oper) (S : Nat → St) (T : Nat → Ty) (x0 : Ctx) (w0 : World) (x : Ctx) (listed : Array Bool) (a : Act) (w : World) : Prop where
 size : listed.size = A.size
 closed : ∀ j oj, A[j]? = some oj → Za2 listed j → ∀ e ∈ oj.after, Region.binds .any e = true → Za2 listed e.on
 fr : a.tmps.size = (S 0).slots.length
 d : a.defers = []
 r : ∃ x' kc, kc ≤ A.size ∧ (∀ c, c < A.size → (T c).isChain → (c < kc ↔ Za2 listed c)) ∧ MemOk x' (S kc).mem w ∧ Ext x0 x' ∧ ExtM x x' ∧ Step x0 w0 w ∧
  ∀ t k v, k ≤ A.size → (∀ i oi, A[i]? = some oi → oi.dst = some t → (i < k ↔ Za2 listed i)) → nth (S k).slots t = some v → RV x' v (a.tmps.getD t undef)
theorem ZA1 {s s' : St} {ty : Ty} {o : Oper} (h : Zhy E chg A.toList s ty o s') : s'.slots.length = s.slots.length := by
 obtain ⟨s1, w, hg, h⟩ := h
 have := (ZbZ hg).1
 cases ty with
 | skip => obtain ⟨_, rfl⟩ := h; rw [Zb4, this]
 | free v => obtain ⟨_, _, _, _, rfl⟩ := h; rw [Zb4, this]
 | read v rb => obtain ⟨_, _, _, _, _, _, rfl⟩ := h; rw [Zb4, this]
 | chain r tb => obtain ⟨_, _, _, _, _, rfl⟩ := h; rw [putRes, Zb4]; exact this
theorem ZhI {s s' : St} {ty : Ty} {o : Oper} (h : Zhy E chg A.toList s ty o s') (hc : ¬ ty.isChain) : s'.mem = s.mem := by
 obtain ⟨s1, w, hg, h⟩ := h
 have := (ZbZ hg).2
 cases ty with
 | skip => obtain ⟨_, rfl⟩ := h; rw [Zfb, this]
 | free v => obtain ⟨_, _, _, _, rfl⟩ := h; rw [Zfb, this]
 | read v rb => obtain ⟨_, _, _, _, _, _, rfl⟩ := h; rw [Zfb, this]
 | chain r tb => exact absurd trivial hc
theorem Zej {s : St} {d : Option Nat} {v : V} {t : Nat} (h : d ≠ some t) : nth (put s d v).slots t = nth s.slots t := by
 cases d with
 | none => rfl
 | some d => exact ZL (fun e => h (by rw [e]))
theorem ZuF {s s' : St} {ty : Ty} {o : Oper} (h : Zhy E chg A.toList s ty o s') {t : Nat} (ht : o.dst ≠ some t) {x : Ctx} {u : Value} (hu : ∀ v, nth s.slots t = some v → RV x v u) : ∀ v, nth s'.slots t = some v → RV x v u := by
 obtain ⟨s1, w, hg, h⟩ := h
 have h1 := Zmy hg hu
 cases ty with
 | skip => obtain ⟨_, rfl⟩ := h; intro v hv; rw [Zej ht] at hv; exact h1 v hv
 | free v => obtain ⟨_, _, _, _, rfl⟩ := h; intro v hv; rw [Zej ht] at hv; exact h1 v hv
 | read v rb => obtain ⟨_, _, _, _, _, _, rfl⟩ := h; intro v hv; rw [Zej ht] at hv; exact h1 v hv
 | chain r tb => obtain ⟨_, _, _, _, _, rfl⟩ := h; intro v hv; rw [putRes, Zej ht] at hv; exact h1 v hv
variable (hst : ∀ k o, A[k]? = some o → Zhy E chg A.toList (S k) (T k) o (S (k + 1)))
include hst
theorem lens : ∀ k, k ≤ A.size → (S k).slots.length = (S 0).slots.length
 | 0, _ => rfl
 | k + 1, h => by
  obtain ⟨o, ho⟩ : ∃ o, A[k]? = some o := ⟨_, Array.getElem?_eq_getElem (by omega)⟩
  rw [ZA1 (hst k o ho), lens k (by omega)]
theorem ZtJ {k k' : Nat} (hk : k ≤ k') (hk' : k' ≤ A.size) (h : ∀ c, k ≤ c → c < k' → ¬ (T c).isChain) : (S k').mem = (S k).mem := by
 induction k' with
 | zero =>
  have : k = 0 := by omega
  subst this; rfl
 | succ n ih =>
  by_cases e : k = n + 1
  ·subst e; rfl
  ·obtain ⟨o, ho⟩ : ∃ o, A[n]? = some o := ⟨_, Array.getElem?_eq_getElem (by omega)⟩
   rw [ZhI (hst n o ho) (h n (by omega) (by omega)), ih (by omega) (by omega) (fun c h1 h2 => h c h1 (by omega))]
theorem ZM9 (hE : Zbl E) {b k k' : Nat} {ns : Bool} (hk : k ≤ k') (hk' : k' ≤ A.size) (hb : b < (S k).mem.boxes.length) (h : ∀ c, k ≤ c → c < k' → (T c).isChain → Zc0 (T c).touch (some (b, ns)) = true) :
  b < (S k').mem.boxes.length ∧ nth (S k').mem.boxes b = nth (S k).mem.boxes b ∧ (ns = true → (S k').mem.stgs = (S k).mem.stgs) := by
 induction k' with
 | zero =>
  have : k = 0 := by omega
  subst this; exact ⟨hb, rfl, fun _ => rfl⟩
 | succ n ih =>
  by_cases e : k = n + 1
  ·subst e; exact ⟨hb, rfl, fun _ => rfl⟩
  ·obtain ⟨o, ho⟩ : ∃ o, A[n]? = some o := ⟨_, Array.getElem?_eq_getElem (by omega)⟩
   obtain ⟨h1, h2, h3⟩ := ih (by omega) (by omega) (fun c h1 h2 => h c h1 (by omega))
   rcases Classical.em (T n).isChain with hc | hc
   ·have ha := h n (by omega) (by omega) hc
    obtain ⟨s1, w, hg, hty⟩ := hst n o ho
    cases hT : T n with
    | chain r tb =>
     rw [hT] at hty ha
     obtain ⟨_, _, htb, hres, _, hS⟩ := hty
     have hm1 : (mask s1 o).mem = (S n).mem := (ZbZ hg).2
     cases tb with
     | none => simp [Ty.touch, Zc0] at ha
     | some b' =>
      obtain ⟨b', st⟩ := b'
      obtain ⟨q1, q3, q2⟩ := Znb hE hres htb.symm
      rw [hm1] at q1 q2 q3
      simp only [Ty.touch, Zc0, Bool.and_eq_true, Bool.not_eq_true', Bool.and_eq_false_iff] at ha
      have hne : b ≠ b' := by
       intro e; subst e; simp at ha
      have hSm : (S (n + 1)).mem = r.m := by rw [hS, putRes, Zfb]
      rw [hSm]
      exact ⟨by omega, by rw [q2 b hne h1, h2], fun hn => by rw [q3 (ha.2.resolve_right (by rw [hn]; simp)), h3 hn]⟩
    | skip => rw [hT] at hc; exact hc.elim
    | free _ => rw [hT] at hc; exact hc.elim
    | read _ _ => rw [hT] at hc; exact hc.elim
   ·rw [ZhI (hst n o ho) hc]; exact ⟨h1, h2, h3⟩
theorem ZLV (hE : Zbl E) {b k k' : Nat} (hk : k ≤ k') (hk' : k' ≤ A.size) (h : ∀ c, k ≤ c → c < k' → (T c).isChain → Zc0 (T c).touch (some (b, true)) = true) :
  (S k').mem.stgs = (S k).mem.stgs := by
 induction k' with
 | zero =>
  have : k = 0 := by omega
  subst this; rfl
 | succ n ih =>
  by_cases e : k = n + 1
  ·subst e; rfl
  ·obtain ⟨o, ho⟩ : ∃ o, A[n]? = some o := ⟨_, Array.getElem?_eq_getElem (by omega)⟩
   have h3 := ih (by omega) (by omega) (fun c h1 h2 => h c h1 (by omega))
   rcases Classical.em (T n).isChain with hc | hc
   ·have ha := h n (by omega) (by omega) hc
    obtain ⟨s1, w, hg, hty⟩ := hst n o ho
    cases hT : T n with
    | chain r tb =>
     rw [hT] at hty ha
     obtain ⟨_, _, htb, hres, _, hS⟩ := hty
     have hm1 : (mask s1 o).mem = (S n).mem := (ZbZ hg).2
     cases tb with
     | none => simp [Ty.touch, Zc0] at ha
     | some b' =>
      obtain ⟨b', st⟩ := b'
      obtain ⟨q1, q3, q2⟩ := Znb hE hres htb.symm
      rw [hm1] at q1 q2 q3
      simp only [Ty.touch, Zc0, Bool.and_eq_true, Bool.not_eq_true', Bool.and_eq_false_iff] at ha
      have hSm : (S (n + 1)).mem = r.m := by rw [hS, putRes, Zfb]
      rw [hSm, q3 (ha.2.resolve_right (by simp)), h3]
    | skip => rw [hT] at hc; exact hc.elim
    | free _ => rw [hT] at hc; exact hc.elim
    | read _ _ => rw [hT] at hc; exact hc.elim
   ·rw [ZhI (hst n o ho) hc]; exact h3
theorem ZyO {t k k' : Nat} (hk : k ≤ k') (hk' : k' ≤ A.size) (h : ∀ i oi, A[i]? = some oi → oi.dst = some t → ¬ (k ≤ i ∧ i < k')) {x : Ctx} {u : Value} (hu : ∀ v, nth (S k).slots t = some v → RV x v u) :
  ∀ v, nth (S k').slots t = some v → RV x v u := by
 induction k' with
 | zero =>
  have : k = 0 := by omega
  subst this; exact hu
 | succ n ih =>
  by_cases e : k = n + 1
  ·subst e; exact hu
  ·obtain ⟨o, ho⟩ : ∃ o, A[n]? = some o := ⟨_, Array.getElem?_eq_getElem (by omega)⟩
   exact ZuF (hst n o ho) (fun ht => h n o ho ht ⟨by omega, by omega⟩) (ih (by omega) (by omega) (fun i oi h1 h2 h3 => h i oi h1 h2 ⟨h3.1, by omega⟩))
variable (hE : Zbl E) (hlex : lexL A.toList = true) (hch : ∀ k k', k < A.size → k' < k → (T k').bound (T k) → Waits A.toList k' k)
include hlex hch
omit hst hch in
theorem ZI5 {i j : Nat} {oi oj : Oper} (hi : A[i]? = some oi) (hj : A[j]? = some oj) (hlt : i < j) (h : oi.apart A oj = false) : ∃ e ∈ oj.after, Region.binds .any e = true ∧ e.on = i := by
 rcases Classical.em (∃ e ∈ oj.after, Region.binds .any e = true ∧ e.on = i) with h1 | h1
 ·exact h1
 ·have := (Zmm hlex i oi hi).2 j oj hlt hj (fun e he hb hon => h1 ⟨e, he, hb, hon⟩)
  rw [h] at this; simp at this
omit hst hch hlex in
theorem ZxC {oi oj : Oper} {t : Nat} (h1 : oi.dst = some t) (h2 : t ∈ oj.looksAt A) : oi.apart A oj = false := by
 rw [Bool.eq_false_iff]; intro h
 exact (Oper.apart_spec h).1 t h1 h2
omit hst hch hlex in
theorem ZxB {oi oj : Oper} {t : Nat} (h1 : oj.dst = some t) (h2 : t ∈ oi.looksAt A) : oi.apart A oj = false := by
 rw [Bool.eq_false_iff]; intro h
 exact (Oper.apart_spec h).2.2 t h1 h2
omit hst hch hlex in
theorem ZlY {oi oj : Oper} {t : Nat} (h1 : oi.dst = some t) (h2 : oj.dst = some t) : oi.apart A oj = false := by
 rw [Bool.eq_false_iff]; intro h
 exact (Oper.apart_spec h).2.1 t h1 h2
omit hst hch hlex in
theorem Zir {listed : Array Bool} (hcl : ∀ j oj, A[j]? = some oj → Za2 listed j → ∀ e ∈ oj.after, Region.binds .any e = true → Za2 listed e.on) {i j : Nat} (h : Waits A.toList i j)
  (hj : ∀ oj, A[j]? = some oj → ∀ e ∈ oj.after, Region.binds .any e = true → Za2 listed e.on) : Za2 listed i := by
 induction h with
 | one j o e h1 he hb hi => exact hi ▸ hj o (by rw [Zt] at h1; simpa using h1) e he hb
 | more j o e h1 he hb hi ih =>
  refine ih fun oj hoj e' he' hb' => ?_
  exact hcl e.on oj hoj (hj o (by rw [Zt] at h1; simpa using h1) e he hb) e' he' hb'
include hE
theorem ZLk {x0 x : Ctx} {w0 : World} {Q : Exit → Act → World → Prop} {listed : Array Bool} {a : Act} {w : World} (inv : Inv A S T x0 w0 x listed a w) {j : Nat} (hready : j ∈ Region.ready .any A listed)
  {K : Act → World → Prop} (hK : ∀ a' w', Inv A S T x0 w0 x (listed.setIfInBounds j true) a' w' → K a' w') : wpOp E.P A Q j K a w := by
 obtain ⟨hun, oj, hj, hall⟩ := mem_ready.1 hready
 have hjlt : j < A.size := (Array.getElem?_eq_some_iff.1 hj).1
 have hunl : ¬ Za2 listed j := by
  unfold Za2
  rw [Array.getD_eq_getD_getElem?, Array.getElem?_eq_getElem (by rw [inv.size]; exact hjlt)] at hun ⊢
  simp only [Option.getD_some] at hun ⊢
  rw [hun]; simp
 obtain ⟨x', kc, hkc, hkc2, hm, he, hxx, hstp, hslot⟩ := inv.r
 have hwr : ∀ t, t ∈ oj.looksAt A ∨ oj.dst = some t → ∀ i oi, A[i]? = some oi → oi.dst = some t → i ≠ j → (i < j ↔ Za2 listed i) := by
  intro t ht i oi hi hdi hne
  constructor
  ·intro hlt
   obtain ⟨e, he, hb, hon⟩ := ZI5 hlex hi hj hlt (by rcases ht with ht | ht; exact ZxC hdi ht; exact ZlY hdi ht)
   exact hon ▸ hall e he hb
  ·intro hl
   rcases Nat.lt_or_ge i j with h | h
   ·exact h
   ·exfalso
    obtain ⟨e, he, hb, hon⟩ := ZI5 hlex hj hi (by omega) (by rcases ht with ht | ht; exact ZxB hdi ht; exact ZlY ht hdi)
    exact hunl (hon ▸ inv.closed i oi hi hl e he hb)
 have hlook : ∀ t, t ∈ oj.looksAt A → ∀ v, nth (S j).slots t = some v → RV x' v (a.tmps.getD t undef) := by
  intro t ht v hv
  refine hslot t j v (by omega) (fun i oi hi hdi => ?_) hv
  by_cases hij : i = j
  ·subst hij; exact ⟨fun h => by omega, fun h => absurd h hunl⟩
  ·exact hwr t (.inl ht) i oi hi hdi hij
 obtain ⟨s1, wt, hg, hty⟩ := hst j oj hj
 have hlooks : ∀ t, t ∈ ZrE oj → t ∈ oj.looksAt A := by
  intro t ht
  unfold Oper.looksAt
  exact List.mem_append_left _ ht
 have hAj : nth A.toList j = some oj := by rw [Zt]; simpa using hj
 have hwanted : Region.wanted oj (yielded A a.tmps) = wt := by
  have := ZrO (a := a) (x := x') hg (fun i want oi d hgd hi hd v hv => by
   refine hlook d ?_ v hv
   unfold Oper.looksAt
   refine List.mem_append_right _ ?_
   rw [Zt] at hi
   simp only [hgd]
   have hi' : A[i]? = some oi := by simpa using hi
   simp [hi', hd])
  simpa using this
 have hlen : (S j).slots.length = a.tmps.size := by rw [lens hst j (by omega), inv.fr]
 have hlen1 : s1.slots.length = a.tmps.size := by rw [(ZbZ hg).1, hlen]
 have hrf : RF x' (mask s1 oj).slots a.tmps := ZOY hlen1 fun t ht => Zmy hg (hlook t (hlooks t ht))
 have hl' : ∀ i, i < A.size → (Za2 (listed.setIfInBounds j true) i ↔ i = j ∨ Za2 listed i) := by
  intro i hi
  unfold Za2
  by_cases e : j = i
  ·subst e
   simp [Array.getD_eq_getD_getElem?, inv.size, hi]
  ·rw [getD_set_ne false e]
   exact ⟨fun h => .inr h, fun h => h.elim (fun h => absurd h.symm e) id⟩
 have hclosed' : ∀ i oi, A[i]? = some oi → Za2 (listed.setIfInBounds j true) i → ∀ e ∈ oi.after, Region.binds .any e = true → Za2 (listed.setIfInBounds j true) e.on := by
  intro i oi hi hl e he' hb
  have hon : Za2 listed e.on := by
   rcases (hl' i (Array.getElem?_eq_some_iff.1 hi).1).1 hl with rfl | hl
   ·have : oi = oj := by rw [hj] at hi; simpa using hi.symm
    subst this
    exact hall e he' hb
   ·exact inv.closed i oi hi hl e he' hb
  exact getD_set_true hon
 have fin : ∀ (x'' : Ctx) (u : Value) (v0 : V) (w' : World) (kc' : Nat), (∀ k, k = j + 1 → nth (S k).slots = nth (S (j + 1)).slots) → kc' ≤ A.size →
   (∀ c, c < A.size → (T c).isChain → (c < kc' ↔ Za2 (listed.setIfInBounds j true) c)) → MemOk x'' (S kc').mem w' → Ext x' x'' → Step x' w w' →
   (∀ t, oj.dst = some t → ∀ v, nth (S (j + 1)).slots t = some v → RV x'' v u) → Inv A S T x0 w0 x (listed.setIfInBounds j true) (a.put oj.dst u) w' := by
  intro x'' u v0 w' kc' _ hkc' hkc2' hm' hx'' hst'' hres
  refine ⟨by simp [inv.size], hclosed', ?_, by rw [Zp0]; exact inv.d, x'', kc', hkc', hkc2', hm', he.trans hx'', hxx.trans hx''.extM, hstp.trans hst'' he.own, ?_⟩
  ·have : (a.put oj.dst u).tmps.size = a.tmps.size := by cases oj.dst <;> simp [Act.put]
   rw [this]; exact inv.fr
  ·intro t k v hk hwt hv
   by_cases ht : oj.dst = some t
   ·-- j's own slot
    have hjk : j < k := (hwt j oj hj ht).2 ((hl' j hjlt).2 (.inl rfl))
    have hval : (a.put oj.dst u).tmps.getD t undef = u := by
     have htl : t < a.tmps.size := by
      have := Z6 hv
      rw [lens hst k hk, ← inv.fr] at this; exact this
     rw [ht]; simp [Act.put, Array.getD_eq_getD_getElem?, htl]
    rw [hval]
    refine ZyO hst (k := j + 1) (k' := k) (by omega) hk (fun i oi hi hdi hb => ?_) (hres t ht) v hv
    have h1 := (hwt i oi hi hdi).1 hb.2
    rcases (hl' i (Array.getElem?_eq_some_iff.1 hi).1).1 h1 with rfl | h1
    ·omega
    ·have := (hwr t (.inr ht) i oi hi hdi (by omega)).2 h1
     omega
   ·have hval : (a.put oj.dst u).tmps.getD t undef = a.tmps.getD t undef := by
     cases hd : oj.dst with
     | none => rfl
     | some d =>
      have : d ≠ t := fun e => ht (by rw [hd, e])
      simp [Act.put, Array.getD_eq_getD_getElem?, this]
    rw [hval]
    refine (hslot t k v hk (fun i oi hi hdi => ?_) hv).mono hx''
    have hne : i ≠ j := fun e => by
     subst e
     have : oi = oj := by rw [hj] at hi; simpa using hi.symm
     subst this; exact ht hdi
    rw [hwt i oi hi hdi, hl' i (Array.getElem?_eq_some_iff.1 hi).1]
    exact ⟨fun h => h.elim (fun h => absurd h hne) id, .inr⟩
 have hkcN : ¬ (T j).isChain → ∀ c, c < A.size → (T c).isChain → (c < kc ↔ Za2 (listed.setIfInBounds j true) c) := by
  intro hnc c hc hcc
  have hne : c ≠ j := fun e => hnc (e ▸ hcc)
  rw [hkc2 c hc hcc, hl' c hc]
  exact ⟨.inr, fun h => h.elim (fun h => absurd h hne) id⟩
 have hs1len : ∀ t v, nth (put s1 (some t) v).slots t = some v ∨ nth (put s1 (some t) v).slots t = none := by
  intro t v
  simp only [put]
  by_cases h : t < s1.slots.length
  ·obtain ⟨q, hq⟩ := Zb6 h
   exact .inl (ZK hq)
  ·refine .inr ?_
   rw [Zt, ZO, List.getElem?_eq_none (by simp; omega)]
 have hdstv : ∀ (s2 : St) (v0 : V), s2.slots = s1.slots → ∀ t, oj.dst = some t → ∀ v, nth (put s2 oj.dst v0).slots t = some v → v = v0 := by
  intro s2 v0 hs2 t ht v hv
  rw [ht] at hv
  simp only [put] at hv
  rcases ZdO hv with ⟨_, e, _⟩ | ⟨h, _⟩
  ·exact e
  ·exact absurd rfl h
 have hbefore : ∀ c, c < A.size → (T c).isChain → (T c).bound (T j) → (T j).bound (T c) → (c < j ↔ Za2 listed c) := by
  intro c hc' hcc hb1 hb2
  constructor
  ·intro hlt
   refine Zir inv.closed (hch j c hjlt hlt hb1) fun o ho e he' hb => ?_
   have : o = oj := by rw [hj] at ho; simpa using ho.symm
   subst this; exact hall e he' hb
  ·intro hl
   rcases Nat.lt_or_ge c j with h | h
   ·exact h
   ·exfalso
    have hne : c ≠ j := fun e => by subst e; exact hunl hl
    exact hunl (Zir inv.closed (hch c j hc' (by omega) hb2) fun o ho e he' hb => inv.closed c o ho hl e he' hb)
 have hmemj : (∀ c, c < A.size → (T c).isChain → (c < j ↔ Za2 listed c)) → (mask s1 oj).mem = (S kc).mem := by
  intro hbef
  have e1 : (mask s1 oj).mem = (S j).mem := (ZbZ hg).2
  rw [e1]
  rcases Nat.le_total j kc with h | h
  ·refine (ZtJ hst h hkc (fun c h1 h2 hcc => ?_)).symm
   have := (hbef c (by omega) hcc).2 ((hkc2 c (by omega) hcc).1 h2)
   omega
  ·refine ZtJ hst h (by omega) (fun c h1 h2 hcc => ?_)
   have := (hkc2 c (by omega) hcc).2 ((hbef c (by omega) hcc).1 h2)
   omega
 unfold wpOp
 simp only [hj]
 cases hT : T j with
 | skip =>
  rw [hT] at hty
  obtain ⟨rfl, hS⟩ := hty
  rw [hwanted]
  refine hK _ _ (fin x' undef Zis w kc (fun _ _ => by simp_all) hkc (hkcN (by rw [hT]; exact fun h => h)) hm (Ext.refl x') (Step.refl x' w) (fun t ht v hv => ?_))
  rw [hS] at hv
  have := hdstv s1 Zis rfl t ht v hv
  subst this
  exact ⟨[], rfl, trivial⟩
 | free v0 =>
  rw [hT] at hty
  obtain ⟨rfl, chk, hfr, hc, hS⟩ := hty
  rw [hwanted]
  refine .inl ?_
  have hmc : chg = false → (mask s1 oj).mem = (S kc).mem := by
   intro hcg
   have hno : ∀ c, ¬ (T c).isChain ∨ A.size ≤ c := by
    intro c
    by_cases hc : c < A.size
    ·left
     intro hcc
     obtain ⟨o, ho⟩ : ∃ o, A[c]? = some o := ⟨_, Array.getElem?_eq_getElem hc⟩
     obtain ⟨_, _, _, h⟩ := hst c o ho
     cases hTc : T c with
     | skip => rw [hTc] at hcc; exact hcc
     | free _ => rw [hTc] at hcc; exact hcc
     | read _ _ => rw [hTc] at hcc; exact hcc
     | chain r tb => rw [hTc] at h; have := h.2.1; rw [hcg] at this; simp at this
    ·right; omega
   have e1 : (mask s1 oj).mem = (S j).mem := (ZbZ hg).2
   have e2 : (S j).mem = (S kc).mem := by
    rcases Nat.le_total j kc with h | h
    ·exact (ZtJ hst h hkc (fun c _ hc => (hno c).resolve_right (by omega))).symm
    ·exact ZtJ hst h (by omega) (fun c _ hc => (hno c).resolve_right (by omega))
   rw [e1, e2]
  have hmr : MemR x' (ZAG chg (mask s1 oj)).mem w := by
   cases hcg : chg with
   | true => exact hm.toR.bare
   | false =>
    show MemR x' (mask s1 oj).mem w
    rw [hmc hcg]; exact hm.toR
  have hrf' : RF x' (ZAG chg (mask s1 oj)).slots a.tmps := by cases chg <;> exact hrf
  refine Zn8 hE hrf' hmr hm (fun hrd => by cases hcg : chg <;> rw [hcg] at hrd <;> simp at hrd; exact hmc hcg) hfr hc fun u w' x'' hv hm' hx'' hw' => hK _ _ ?_
  refine fin x'' u v0 w' kc (fun _ h => by rw [h]) hkc (hkcN (by rw [hT]; exact fun h => h)) hm' hx'' (hw'.step hm) (fun t ht v hv' => ?_)
  rw [hS] at hv'
  have := hdstv s1 v0 rfl t ht v hv'
  subst this; exact hv
 | read v0 rb =>
  rw [hT] at hty
  obtain ⟨rfl, hcg, hrb, chk, hfr, hc, hS⟩ := hty
  rw [hwanted]
  refine .inl ?_
  have hrj : (T j).isRead := by rw [hT]; trivial
  have hloc : (T j).loc = rb := by rw [hT]; rfl
  have e1 : (mask s1 oj).mem = (S j).mem := (ZbZ hg).2
  have hfr' : Zcz E true { mask s1 oj with mem := (S kc).mem } oj = some (chk, v0) := by
   cases hrb' : rb with
   | none =>
    have hmem := hmemj (fun c hc' hcc => hbefore c hc' hcc (.inr (.inr ⟨hrj, hcc, by rw [hloc, hrb']; cases (T c).touch <;> rfl⟩)) (.inr (.inl ⟨hcc, hrj, by rw [hloc, hrb']; cases (T c).touch <;> rfl⟩)))
    rw [← hmem]; exact hfr
   | some b =>
    obtain ⟨b, ns⟩ := b
    rw [hrb'] at hrb
    have hap : ∀ c, c < A.size → (T c).isChain → ¬ (c < j ↔ Za2 listed c) → Zc0 (T c).touch (some (b, ns)) = true := by
     intro c hc' hcc hn
     cases hap : Zc0 (T c).touch (some (b, ns)) with
     | true => rfl
     | false => exact absurd (hbefore c hc' hcc (.inr (.inr ⟨hrj, hcc, by rw [hloc, hrb']; exact hap⟩)) (.inr (.inl ⟨hcc, hrj, by rw [hloc, hrb']; exact hap⟩))) hn
    rcases ZDt (m' := (S kc).mem) hE hfr hrb.symm with ⟨⟨l0, hl0⟩, ⟨p, o', hp⟩, hfin⟩ | ⟨rfl, hfin⟩
    ·refine (fun (q : _ ∧ _) => hfin q.1 q.2) ?_
     have hbj : b < (S j).mem.boxes.length := by rw [← e1]; exact Z6 hl0
     have hbk : b < (S kc).mem.boxes.length := by
      have hv := Zav hrf hp
      rw [← hm.ml]
      generalize a.eval p = u at hv
      cases hv with
      | loc _ _ _ q hq => exact Z6 hq
     rw [e1]
     rcases Nat.le_total j kc with h | h
     ·refine (ZM9 hst hE h hkc hbj (fun c h1 h2 hcc => hap c (by omega) hcc fun hi => ?_)).2
      have := hi.2 ((hkc2 c (by omega) hcc).1 h2)
      omega
     ·refine (fun q => ⟨q.1.symm, fun hn => (q.2 hn).symm⟩) (ZM9 hst hE h (by omega) hbk (fun c h1 h2 hcc => hap c (by omega) hcc fun hi => ?_)).2
      have := (hkc2 c (by omega) hcc).2 (hi.1 h2)
      omega
    ·refine hfin ?_
     rw [e1]
     rcases Nat.le_total j kc with h | h
     ·refine ZLV hst hE h hkc (fun c h1 h2 hcc => hap c (by omega) hcc fun hi => ?_)
      have := hi.2 ((hkc2 c (by omega) hcc).1 h2)
      omega
     ·refine (ZLV hst hE h (by omega) (fun c h1 h2 hcc => hap c (by omega) hcc fun hi => ?_)).symm
      have := (hkc2 c (by omega) hcc).2 (hi.1 h2)
      omega
  refine Zn8 hE (s := { mask s1 oj with mem := (S kc).mem }) hrf hm.toR hm (fun _ => rfl) hfr' hc fun u w' x'' hv hm' hx'' hw' => hK _ _ ?_
  refine fin x'' u v0 w' kc (fun _ h => by rw [h]) hkc (hkcN (by rw [hT]; exact fun h => h)) hm' hx'' (hw'.step hm) (fun t ht v hv' => ?_)
  rw [hS] at hv'
  have := hdstv s1 v0 rfl t ht v hv'
  subst this; exact hv
 | chain r tb =>
  rw [hT] at hty
  obtain ⟨rfl, hcg, htb, hres, hc, hS⟩ := hty
  rw [hwanted]
  refine .inl ?_
  have hcj : (T j).isChain := by rw [hT]; trivial
  have hbef := fun c hc' hcc => hbefore c hc' hcc (.inl ⟨hcj, hcc⟩) (.inl ⟨hcc, hcj⟩)
  have hmem := hmemj hbef
  refine Zng hE hrf inv.d (by rw [hmem]; exact hm) hres hc fun v w' x'' hv hm' hx'' hst'' => hK _ _ ?_
  have hSm : (S (j + 1)).mem = r.m := by rw [hS, putRes, Zfb]
  refine fin x'' v r.v w' (j + 1) (fun _ h => by rw [h]) (by omega) (fun c hc' hcc => ?_) (by rw [hSm]; exact hm') hx'' hst'' (fun t ht v' hv' => ?_)
  ·rw [hl' c hc', ← hbef c hc' hcc]; omega
  ·rw [hS] at hv'
   have := hdstv { s1 with mem := r.m, bd := r.bd, sd := r.sd } r.v rfl t ht v' hv'
   subst this; exact hv
def Zgv (A : Array Oper) (listed : Array Bool) : Nat := ((List.range A.size).filter fun i => !listed.getD i false).length
omit hst hlex hch hE in
theorem Zgu {listed : Array Bool} {j : Nat} (hs : listed.size = A.size) (hj : j < A.size) (h : listed.getD j false = false) : Zgv A (listed.setIfInBounds j true) < Zgv A listed := by
 unfold Zgv
 have key : ∀ l : List Nat, l.Nodup → j ∈ l → (l.filter fun i => !(listed.setIfInBounds j true).getD i false).length < (l.filter fun i => !listed.getD i false).length ∧
   True := by
  intro l
  induction l with
  | nil => intro _ h; simp at h
  | cons i l ih =>
   intro hnd hm
   refine ⟨?_, trivial⟩
   rw [List.nodup_cons] at hnd
   by_cases e : j = i
   ·subst e
    have h1 : (listed.setIfInBounds j true).getD j false = true := by simp [Array.getD_eq_getD_getElem?, hs, hj]
    have h2 : (l.filter fun i => !(listed.setIfInBounds j true).getD i false) = (l.filter fun i => !listed.getD i false) := by
     apply List.filter_congr
     intro i hi
     rw [getD_set_ne false (fun e => by subst e; exact hnd.1 hi)]
    rw [List.filter_cons_of_neg (by simp [h1]), List.filter_cons_of_pos (by simp [h]), h2]
    simp
   ·have hm' : j ∈ l := by simpa [e] using hm
    have := (ih hnd.2 hm').1
    have e1 : (listed.setIfInBounds j true).getD i false = listed.getD i false := getD_set_ne false e
    by_cases hb : listed.getD i false = true
    ·rw [List.filter_cons_of_neg (by rw [e1, hb]; simp), List.filter_cons_of_neg (by rw [hb]; simp)]; exact this
    ·rw [List.filter_cons_of_pos (by rw [e1]; simpa using hb), List.filter_cons_of_pos (by simpa using hb)]
     simpa using this
 exact (key _ List.nodup_range (by simpa using hj)).1
theorem ZPe {x0 x : Ctx} {w0 : World} {Q : Exit → Act → World → Prop} (hQ : ∀ x' a w, RelH x0 w0 x' (S A.size) a w → ExtM x x' → Q .normal a w) : ∀ (fuel : Nat) (listed : Array Bool) (a : Act) (w : World),
  Inv A S T x0 w0 x listed a w → Zgv A listed ≤ fuel → wpAny E.P .any A Q fuel listed a w := by
 have all : ∀ listed a w, Inv A S T x0 w0 x listed a w → Region.ready .any A listed = [] → Q .normal a w := by
  intro listed a w inv hr
  have hall : ∀ j, j < A.size → Za2 listed j := by
   intro j
   induction j using Nat.strongRecOn with
   | _ j ih =>
    intro hj
    rcases Classical.em (Za2 listed j) with h | h
    ·exact h
    ·exfalso
     obtain ⟨oj, hoj⟩ : ∃ o, A[j]? = some o := ⟨_, Array.getElem?_eq_getElem hj⟩
     have : j ∈ Region.ready .any A listed := by
      refine mem_ready.2 ⟨?_, oj, hoj, fun e he hb => ih e.on ((Zmm hlex j oj hoj).1 e he hb) ?_⟩
      ·unfold Za2 at h
       rw [Array.getD_eq_getD_getElem?, Array.getElem?_eq_getElem (by rw [inv.size]; exact hj)] at h ⊢
       simp only [Option.getD_some] at h ⊢
       simpa using h
      ·have := (Zmm hlex j oj hoj).1 e he hb; omega
     rw [hr] at this; simp at this
  obtain ⟨x', kc, hkc, hkc2, hm, he, hxx, hstp, hslot⟩ := inv.r
  have hm' : MemOk x' (S A.size).mem w := by
   rw [ZtJ hst hkc (Nat.le_refl _) (fun c h1 h2 hcc => by have := (hkc2 c h2 hcc).2 (hall c h2); omega)]; exact hm
  refine hQ x' a w ⟨⟨⟨by rw [lens hst A.size (Nat.le_refl _), inv.fr], fun i v hv => ?_⟩, hm', inv.d⟩, he, hstp⟩ hxx
  exact hslot i A.size v (Nat.le_refl _) (fun i' oi hi _ => ⟨fun h => hall i' h, fun _ => (Array.getElem?_eq_some_iff.1 hi).1⟩) hv
 intro fuel
 induction fuel with
 | zero =>
  intro listed a w inv hf
  have hr : Region.ready .any A listed = [] := by
   cases hr : Region.ready .any A listed with
   | nil => rfl
   | cons j l =>
    exfalso
    have hj : j ∈ Region.ready .any A listed := by rw [hr]; simp
    obtain ⟨hun, oj, hoj, _⟩ := mem_ready.1 hj
    have hlt := (Array.getElem?_eq_some_iff.1 hoj).1
    have := Zgu (A := A) inv.size hlt (by
     rw [Array.getD_eq_getD_getElem?, Array.getElem?_eq_getElem (by rw [inv.size]; exact hlt)] at hun ⊢
     simpa using hun)
    omega
  exact ⟨hr, all listed a w inv hr⟩
 | succ fuel ih =>
  intro listed a w inv hf
  refine ⟨fun hr => all listed a w inv hr, fun j hj => ?_⟩
  obtain ⟨hun, oj, hoj, _⟩ := mem_ready.1 hj
  have hlt := (Array.getElem?_eq_some_iff.1 hoj).1
  have := Zgu (A := A) inv.size hlt (by
   rw [Array.getD_eq_getD_getElem?, Array.getElem?_eq_getElem (by rw [inv.size]; exact hlt)] at hun ⊢
   simpa using hun)
  exact ZLk hst hE hlex hch inv hj fun a' w' inv' => ih _ a' w' inv' (by omega)
end
theorem ZLC {E : Env} (hE : Zbl E) {x0 x : Ctx} {w0 w : World} {s : St} {a : Act} {A : Array Oper} {id : Nat} {chg : Bool} {Q : Exit → Act → World → Prop} (hP : E.P.follows .mixedOrders = true) (hlex : lexL A.toList = true)
  (hr : RelH x0 w0 x s a w) (h : Hold x0 w0 x Q (Znd s (ZdL E chg (ZfU A.toList []) A.toList A.toList 0 [] [] s).val)) : (Code.region id A true).wp E.P Q a w := by
 have hk : (ZdL E chg (ZfU A.toList []) A.toList A.toList 0 [] [] s).val.k ≠ .stop := by
  intro hk
  unfold Znd at h
  rw [hk] at h
  exact Hold.stop hr h
 obtain ⟨S, T, h1, h2, h3, h4⟩ := ZGq (fun _ _ h => Zyr h) A.toList 0 [] [] s hk
 simp only [Nat.zero_add] at h2 h3 h4
 have hlen : A.toList.length = A.size := by simp
 rw [hlen] at h2 h4
 rw [h2] at h
 simp only [Znd] at h
 have hst : ∀ k o, A[k]? = some o → Zhy E chg A.toList (S k) (T k) o (S (k + 1)) := fun k o ho => h3 k o (by rw [Zt]; simpa using ho)
 refine wp_region_any hP (ZPe hst hE hlex (fun k k' hk hk' hb => by have := (h4 k hk).bd k' hk'; simp only [Nat.zero_add] at this; exact this hb) (x0 := x0) (x := x) (w0 := w0) (fun x' a' w' hr' hxx => ?_) A.size _ a _ ?_ ?_)
 ·exact h x' a' w' hr' hxx
 ·have hr' := hr.same (ZcT.drew w)
  have hno : ∀ i, ¬ Za2 (Array.replicate A.size false) i := by
   intro i hi
   unfold Za2 at hi
   rw [Array.getD_eq_getD_getElem?, Array.getElem?_replicate] at hi
   split at hi <;> simp at hi
  refine ⟨by simp, fun j oj _ hl => absurd hl (hno j), by rw [h1]; exact hr.r.f.size.symm, hr.r.d, x, 0, Nat.zero_le _, fun c _ _ => ⟨fun h => by omega, fun h => absurd h (hno c)⟩, by rw [h1]; exact hr'.r.m, hr.e, ExtM.refl x, hr'.t, ?_⟩
  intro t k v hk' hwt hv
  refine ZyO hst (k := 0) (k' := k) (Nat.zero_le _) hk' (fun i oi hi hd hb => hno i ((hwt i oi hi hd).1 hb.2)) (fun v hv => ?_) v hv
  rw [h1] at hv
  exact hr.r.f.slot t v hv
 ·unfold Zgv
  have := List.length_filter_le (fun i => !(Array.replicate A.size false).getD i false) (List.range A.size)
  simpa using this
theorem RF.retag {x : Ctx} {sl : List V} {t : Array Value} (h : RF x sl t) (d : Nat) {v : V} (hv : RV x v (t.getD d undef)) : RF x (setN sl d v) t := by
 refine ⟨by simp [ZO, h.size], fun i v' e => ?_⟩
 by_cases hd : d = i
 ·subst hd
  have hlt := Z6 e
  rw [ZO] at hlt e
  rw [Zt, List.getElem?_set_self (by simpa using hlt)] at e
  simp only [oinj] at e
  subst e; exact hv
 ·rw [Zt, ZO, List.getElem?_set_ne hd, ← Zt] at e
  exact h.slot i v' e
theorem RelH.retag {x0 x : Ctx} {w0 w : World} {s : St} {a : Act} (h : RelH x0 w0 x s a w) (d : Nat) {v : V} (hv : RV x v (a.tmps.getD d undef)) : RelH x0 w0 x (S3.put s (some d) v) a w :=
 ⟨⟨h.r.f.retag d hv, h.r.m, h.r.d⟩, h.e, h.t⟩
theorem RelH.ofMem {x0 x : Ctx} {w0 w : World} {s s' : St} {a : Act} (h : RelH x0 w0 x s a w) (h1 : s'.slots = s.slots) (h2 : s'.mem = s.mem) : RelH x0 w0 x s' a w :=
 ⟨⟨by rw [h1]; exact h.r.f, by rw [h2]; exact h.r.m, h.r.d⟩, h.e, h.t⟩
theorem Hold.backD {x0 x : Ctx} {w0 : World} {s : St} {Q : Exit → Act → World → Prop} {o : Out} (h : Hold x0 w0 x Q (S3.backD s o)) : Hold x0 w0 x Q o :=
 fun x' a' w' hr hx => h x' a' w' (hr.ofMem rfl rfl) hx
theorem ZDK {s : St} {o : Out} (h : Keep (Zam s) o.s) : Keep s (S3.backD s o).s where
 sl := h.sl
 slot := fun t ht => by
  simp only [S3.backD, Zef, Bool.or_eq_false_iff] at ht
  exact ⟨ht.1, (h.slot t ht.2).2⟩
 bl := h.bl
 box := fun b l hl => by
  obtain ⟨l', h1, h2, h3⟩ := h.box b l hl
  refine ⟨l', h1, h2, fun j hj => ?_⟩
  simp only [S3.backD, Zcr, Bool.or_eq_false_iff] at hj
  exact ⟨hj.1, (h3 j hj.2).2⟩
 gl := h.gl
 stg := fun i g hg => by
  obtain ⟨g', h1, h2, h3⟩ := h.stg i g hg
  refine ⟨g', h1, h2, fun hj => ?_⟩
  simp only [S3.backD, Zcs, Bool.or_eq_false_iff] at hj
  exact ⟨hj.1, (h3 hj.2).2⟩
theorem Zec {s : St} {t : RT Out} (h : AllK (Zam s) t) : AllK s (t.map (backD s)) := RT.All.map (h.mono fun _ k => ZDK k)
theorem ZaB (s : St) : (Zam s).dirty = 0 ∧ (Zam s).bd = [] ∧ (Zam s).sd = [] := ⟨rfl, rfl, rfl⟩
theorem RelH.reset {x0 x : Ctx} {w0 w : World} {s : St} {a : Act} (h : RelH x0 w0 x s a w) : RelH x0 w0 x (Zam s) a w := h.ofMem rfl rfl
theorem Zyz (id : Nat) (o : Out) : (unexit id o).s = o.s := by
 unfold unexit
 split
 ·split <;> rfl
 ·rfl
theorem Hold.unexit {x0 x : Ctx} {w0 : World} {id : Nat} {Q : Exit → Act → World → Prop} {o : Out} (h : Hold x0 w0 x Q (S3.unexit id o)) : Hold x0 w0 x (Exit.inBlock id Q) o := by
 intro x' a' w' hr hx
 have h' := h x' a' w' (by rw [Zyz]; exact hr) hx
 unfold S3.unexit at h'
 split at h'
 ·rename_i i hk
  rw [hk]
  split at h'
  ·rename_i hi
   simp only [Nat.beq_eq] at hi
   simp only [QK, Exit.inBlock, hi, if_true]; exact h'
  ·rename_i hi
   have hne : i ≠ id := by intro e; subst e; simp at hi
   rw [hk] at h'
   simp only [QK, Exit.inBlock, hne, if_false]; exact h'
 ·rename_i hk
  cases hko : o.k with
  | normal => rw [hko] at h'; exact h'
  | exit i => exact absurd hko (hk i)
  | ret => rw [hko] at h'; exact h'
  | stop => rw [hko] at h'; exact h'
theorem ZEy {a b : K} (h : ZEz a b = true) : a = b := by
 cases a <;> cases b <;> simp [ZEz] at h <;> first | rfl | (subst h; rfl)
section
variable {s : St} (hs : s.dirty = 0 ∧ s.bd = [] ∧ s.sd = [])
include hs
theorem ZDF {c : Bool} {nm : Nm} {x y : Out} (h1 : Keep s x.s) (h2 : Keep s y.s) : AllK s (ZIT c (len s.mem.boxes) (len s.mem.stgs) nm x y) := by
 unfold ZIT
 split
 ·split
  ·rename_i m hm
   exact ZxZ hs h1 h2 hm
  ·exact ⟨h1, h2⟩
 ·exact ⟨h1, h2⟩
theorem Zn9 {c : Bool} {nm : Nm} {x : Out} (h1 : Keep s x.s) : ∀ {e : RT Out}, AllK s e → AllK s (ZDE c (len s.mem.boxes) (len s.mem.stgs) nm x e)
 | .leaf y, h => ZDF hs h1 h
 | .br b t f, h => by
  unfold ZDE
  split
  ·exact ⟨Zn9 h1 h.1, h.2⟩
  ·exact ⟨h1, h⟩
theorem Zhn {c : Bool} {nm : Nm} {e : RT Out} (h2 : AllK s e) : ∀ {t : RT Out}, AllK s t → AllK s (fork c (len s.mem.boxes) (len s.mem.stgs) nm t e)
 | .leaf x, h1 => by
  unfold fork
  split
  ·exact ⟨h2, h1⟩
  ·split
   ·exact ⟨h1, h2⟩
   ·exact Zn9 hs h1 h2
 | .br b t f, h1 => by
  unfold fork
  split
  ·exact ⟨Zhn h2 h1.1, h1.2⟩
  ·exact ⟨h1, h2⟩
theorem Zbm {nm : Nm} : ∀ {t : RT Out}, AllK s t → AllK s (Zgy (len s.mem.boxes) (len s.mem.stgs) nm t)
 | .leaf _, h => h
 | .br _ _ _, h => Zhn hs (Zbm (And.right h)) (Zbm (And.left h))
end
section
variable {x0 x : Ctx} {w0 w : World} {s : St} {a : Act} (hr : RelH x0 w0 x s a w) {nm : Nm} {Q : Exit → Act → World → Prop}
include hr
theorem ZLu {c : Bool} {y1 y2 : Out} (h1 : Keep s y1.s) (h2 : Keep s y2.s) (h : Hold x0 w0 x Q (ZIT c (len s.mem.boxes) (len s.mem.stgs) nm y1 y2).val) : Hold x0 w0 x Q (cond c y1 y2) := by
 unfold ZIT at h
 split at h
 ·rename_i hk
  split at h
  ·rename_i m hm
   intro x' a' w' hr' hx'
   have hmm := ZH5 hr h1 h2 hm
   have hk' := ZEy hk
   have hs' : (cond c y1 y2).s = cond c y1.s y2.s := by cases c <;> rfl
   have hkk : (cond c y1 y2).k = y1.k := by cases c; exact hk'.symm; rfl
   rw [hs'] at hr'
   obtain ⟨x'', hr'', hx''⟩ := hmm x' a' w' hr' hx'
   rw [hkk]
   exact h x'' a' w' hr'' hx''
  ·exact h
 ·exact h
theorem ZrT {c : Bool} {y : Out} (h1 : Keep s y.s) : ∀ {e : RT Out}, AllK s e → Hold x0 w0 x Q (ZDE c (len s.mem.boxes) (len s.mem.stgs) nm y e).val → Hold x0 w0 x Q (cond c y e.val)
 | .leaf z, h2, h => ZLu hr h1 h2 h
 | .br b t f, h2, h => by
  unfold ZDE at h
  split at h
  ·cases c with
   | true => exact ZrT (c := true) (e := t) h1 h2.1 h
   | false =>
    cases b with
    | true => exact ZrT (c := false) (e := t) h1 h2.1 h
    | false => exact h
  ·cases c <;> exact h
theorem Zih {c : Bool} {e : RT Out} (h2 : AllK s e) : ∀ {t : RT Out}, AllK s t → Hold x0 w0 x Q (fork c (len s.mem.boxes) (len s.mem.stgs) nm t e).val → Hold x0 w0 x Q (cond c t.val e.val)
 | .leaf y, h1, h => by
  unfold fork at h
  split at h
  ·cases c <;> exact h
  ·split at h
   ·cases c <;> exact h
   ·exact ZrT hr h1 h2 h
 | .br b t f, h1, h => by
  unfold fork at h
  split at h
  ·cases c with
   | true =>
    cases b with
    | true => exact Zih (c := true) (t := t) h2 h1.1 h
    | false => exact h
   | false => exact Zih (c := false) (t := t) h2 h1.1 h
  ·cases c <;> exact h
theorem ZdU (hs : s.dirty = 0 ∧ s.bd = [] ∧ s.sd = []) : ∀ {t : RT Out}, AllK s t → Hold x0 w0 x Q (Zgy (len s.mem.boxes) (len s.mem.stgs) nm t).val → Hold x0 w0 x Q t.val
 | .leaf _, _, h => h
 | .br c t e, hk, h => by
  have hk1 : AllK s t := And.left hk
  have hk2 : AllK s e := And.right hk
  have h' := Zih hr (Zbm hs hk2) (Zbm hs hk1) h
  cases c with
  | true =>
   have r : Hold x0 w0 x Q t.val := ZdU hs hk1 h'
   exact r
  | false =>
   have r : Hold x0 w0 x Q e.val := ZdU hs hk2 h'
   exact r
end
theorem Ziv {E : Env} (hE : Zbl E) {s : St} {o : Oper} : (ZaD E s o).All (fun r => ∀ q, r = some q → KeepR s q) := by
 unfold ZaD
 split
 ·split
  ·split
   ·intro q hq; exact Zr3 hq
   ·intro q hq; simp at hq
  ·split
   ·split
    ·rename_i hfz
     split
     ·intro q hq
      simp only [oinj] at hq; subst hq
      exact KeepR.of (Zc8 hfz) _ _
     ·intro q hq; simp at hq
    ·intro q hq; simp at hq
   ·split
    ·intro q hq
     simp only [oinj] at hq; subst hq
     exact .still rfl rfl rfl
    ·intro q hq; simp at hq
   ·rename_i g caps vs hcal hvs
    have : ∃ f, Zc E.P f (.tree g) := by
     unfold ZaL at hcal
     split at hcal
     ·split at hcal
      ·split at hcal
       ·rename_i e he
        simp only [oinj, pinj] at hcal
        rename_i f' _ _ _ _
        have := (hE _ _ he).plain
        rw [hcal.1] at this
        exact ⟨_, this⟩
       ·simp at hcal
      ·simp at hcal
     ·simp at hcal
    obtain ⟨f, hf⟩ := this
    have h := hf.2.1 (vs ++ caps) s.mem
    refine RT.All.map (h.mono fun r hr q hq => ?_)
    split at hq
    ·rename_i r0
     simp only [oinj] at hq; subst hq
     exact (hr r0 rfl).keepR
    ·simp at hq
   ·intro q hq; simp at hq
 ·split
  ·unfold idxT
   split
   ·rename_i k n _ _
    have : ∀ t x m j, (Zio E.P s t x k n m j).All fun r => ∀ q, r = some q → KeepR s q := by
     intro t x m
     induction m with
     | zero => intro j q hq; simp at hq
     | succ m ih => intro j; exact ⟨fun q hq => Zdy hq, ih _⟩
    exact this _ _ _ _
   ·intro q hq; exact Zdy hq
  ·intro q hq; simp at hq
 ·intro q hq; exact ZIX hq
theorem Znf {E : Env} (hE : Zbl E) {s : St} {o : Oper} {k : St → RT Out} (hk : ∀ s', Keep s s' → AllK s' (k s')) : AllK s (ZEr E s o k) := by
 unfold ZEr
 refine RT.All.bind ((Ziv hE).mono fun r hr => ?_)
 cases r with
 | none => exact Zai s
 | some r => exact Zfu ((hk _ ((hr r rfl).keep _)).trans ((hr r rfl).keep _))
theorem Zyj {nm : Nm} {ops : List Oper} {s : St} {g : Option (Nat × Bool)} {run skip : St → RT Out} (h1 : ∀ s', AllK s' (run s')) (h2 : ∀ s', AllK s' (skip s')) : AllK s (Zt9 nm ops s g run skip) := by
 have hb : ∀ (t e : RT Out) (b : Bool), AllK (Zam s) t → AllK (Zam s) e → AllK s ((fork b (len s.mem.boxes) (len s.mem.stgs) nm t e).map (backD s)) := fun t e b ht he =>
  Zec (Zhn (s := Zam s) (ZaB s) he ht)
 unfold Zt9
 repeat' split
 all_goals first
  | exact Zai s
  | exact h1 s
  | exact h2 s
  | exact hb _ _ _ ((h1 _).trans (Keep.put _ _ _)) ((h2 _).trans (Keep.put _ _ _))
  | exact hb _ _ _ ((h2 _).trans (Keep.put _ _ _)) ((h1 _).trans (Keep.put _ _ _))
theorem Zdc {E : Env} (hE : Zbl E) {ops : List Oper} : ∀ (l : List Oper) (s : St), AllK s (ZDH E ops l s)
 | [], s => Keep.refl s
 | _ :: l, _ => Zyj (fun _ => Znf hE fun s'' _ => Zdc hE l s'') (fun _ => (Zdc hE l _).trans (Keep.put _ _ _))
theorem ZJI {E : Env} (hE : Zbl E) {x0 x : Ctx} {w0 w : World} {s : St} {a : Act} {o : Oper} {k : St → RT Out} {Q : Exit → Act → World → Prop} {next : Act → World → Prop}
  (hr : RelH x0 w0 x s a w) (h : Hold x0 w0 x Q (ZEr E s o k).val)
  (hn : ∀ x' s' a' w', RelH x0 w0 x' s' a' w' → ExtM x x' → Hold x0 w0 x' Q (k s').val → next a' w') : o.wp E.P a w next Q := by
 unfold ZEr at h
 rw [RT.val_bind] at h
 cases hres : (ZaD E s o).val with
 | none => rw [hres] at h; exact (Hold.stop hr h).elim
 | some r =>
  rw [hres] at h
  obtain ⟨hc, h⟩ := Hold.chk hr (show Hold x0 w0 x Q (chkT r.chk s (k (putRes s o.dst r))).val from h)
  exact Zng hE hr.r.f hr.r.d hr.r.m hres hc fun v w' x' hv hm he ht => hn x' _ _ _ (hr.putRes o.dst hv hm he ht) he.extM (h.ext he.extM)
theorem ZIN {x0 x : Ctx} {w0 w : World} {s : St} {a : Act} {nm : Nm} {ops : List Oper} {o : Oper} {run skip : St → RT Out} {Q : Exit → Act → World → Prop} (k1 : ∀ s', AllK s' (run s')) (k2 : ∀ s', AllK s' (skip s'))
  (hr : RelH x0 w0 x s a w) (h : Hold x0 w0 x Q (Zt9 nm ops s o.guard run skip).val) :
  (Region.wanted o (yielded ops.toArray a.tmps) = true ∧ ∃ s', RelH x0 w0 x s' a w ∧ Hold x0 w0 x Q (run s').val) ∨
  (Region.wanted o (yielded ops.toArray a.tmps) = false ∧ ∃ s', RelH x0 w0 x s' a w ∧ Hold x0 w0 x Q (skip s').val) := by
 unfold Zt9 at h
 split at h
 ·rename_i hg
  exact .inl ⟨by simp [Region.wanted, hg], s, hr, h⟩
 ·rename_i j want hg
  split at h
  ·rename_i oj hoj
   split at h
   ·rename_i d hd
    have hy := Zm5 (a := a) hoj hd
    have hw : Region.wanted o (yielded ops.toArray a.tmps) = ((match a.tmps.getD d undef with | .bool b => some b | _ => none) == some want) := by
     simp only [Region.wanted, hg, hy]; try rfl
    split at h
    ·rename_i b hs
     have hv := Zcf (hr.r.f.slot d _ hs)
     rw [hv] at hw
     split at h
     ·rename_i hb
      exact .inl ⟨by rw [hw]; simpa using hb, s, hr, h⟩
     ·rename_i hb
      exact .inr ⟨by rw [hw]; simpa using hb, s, hr, h⟩
    ·rename_i b hs
     have hv := Zcf (hr.r.f.slot d _ hs)
     rw [hv] at hw
     have hr0 : RelH x0 w0 x (Zam s) a w := hr.reset
     have hrt : ∀ c, c = b → RelH x0 w0 x (S3.put (Zam s) (some d) (.w (.one (.bool true c)))) a w := fun c e => hr0.retag d (by rw [hv, e]; exact .bool _ _ _)
     have kr : ∀ v, AllK (Zam s) (run (S3.put (Zam s) (some d) v)) := fun v => (k1 _).trans (Keep.put _ _ _)
     have ks : ∀ v, AllK (Zam s) (skip (S3.put (Zam s) (some d) v)) := fun v => (k2 _).trans (Keep.put _ _ _)
     cases want with
     | true =>
      simp only at h
      rw [RT.val_map] at h
      have h' := Zih hr0 (ks _) (kr _) h.backD
      cases b with
      | true => exact .inl ⟨by rw [hw]; rfl, _, hrt true rfl, h'⟩
      | false => exact .inr ⟨by rw [hw]; rfl, _, hrt false rfl, h'⟩
     | false =>
      simp only at h
      rw [RT.val_map] at h
      have h' := Zih hr0 (kr _) (ks _) h.backD
      cases b with
      | true => exact .inr ⟨by rw [hw]; rfl, _, hrt true rfl, h'⟩
      | false => exact .inl ⟨by rw [hw]; rfl, _, hrt false rfl, h'⟩
    ·rename_i hs
     obtain ⟨C, hv, hC⟩ := hr.r.f.slot d _ hs
     rw [hv] at hw
     exact .inr ⟨by rw [hw]; rfl, s, hr, h⟩
    ·exact (Hold.stop hr h).elim
   ·exact (Hold.stop hr h).elim
  ·exact (Hold.stop hr h).elim
theorem RelH.skip {x0 x : Ctx} {w0 w : World} {s : St} {a : Act} (h : RelH x0 w0 x s a w) (d : Option Nat) : RelH x0 w0 x (S3.put s d Zis) (a.put d undef) w :=
 ⟨⟨RF.put h.r.f d ⟨[], rfl, trivial⟩, by rw [Zfb]; exact h.r.m, by rw [Zp0]; exact h.r.d⟩, h.e, h.t⟩
theorem ZrV {E : Env} (hE : Zbl E) {x0 : Ctx} {w0 : World} {ops : List Oper} {Q : Exit → Act → World → Prop} : ∀ (l : List Oper) (x : Ctx) (w : World) (s : St) (a : Act),
  RelH x0 w0 x s a w → Hold x0 w0 x Q (ZDH E ops l s).val → wpList E.P ops.toArray Q l a w
 | [], x, w, s, a, hr, h => h x a w hr (ExtM.refl x)
 | o :: l, x, w, s, a, hr, h => by
  simp only [ZDH] at h
  unfold wpList
  rcases ZIN (fun _ => Znf hE fun s'' _ => Zdc hE l s'') (fun _ => (Zdc hE l _).trans (Keep.put _ _ _)) hr h with ⟨hw, s', hr', h'⟩ | ⟨hw, s', hr', h'⟩
  ·rw [if_pos hw]
   refine .inl (ZJI hE hr' h' fun x' s2 a' w' hr2 hx h2 => ZrV hE l x' w' s2 a' hr2 h2)
  ·rw [if_neg (by simp [hw])]
   exact ZrV hE l x w _ _ (hr'.skip o.dst) h'
theorem Zyk {ops : List Oper} {s : St} {g : Option (Nat × Bool)} {run skip : St → RT Out} (h1 : ∀ s', AllK s' (run s')) (h2 : ∀ s', AllK s' (skip s')) : AllK s (Zn5 ops s g run skip) := by
 unfold Zn5
 repeat' split
 all_goals first
  | exact Zai s
  | exact h1 s
  | exact h2 s
  | exact ⟨(h1 _).trans (Keep.put _ _ _), (h2 _).trans (Keep.put _ _ _)⟩
  | exact ⟨(h2 _).trans (Keep.put _ _ _), (h1 _).trans (Keep.put _ _ _)⟩
theorem KeepR.unmask {s : St} {o : Oper} {r : Res} (h : KeepR (mask s o) r) : KeepR s r := ⟨h.bl, h.box, h.gl, h.stg⟩
theorem ZcA {E : Env} (hE : Zbl E) {chg : Bool} {cls : List Nat} {ops : List Oper} : ∀ (l : List Oper) (i : Nat) (cs rs : List (Nat × Option (Nat × Bool))) (s : St), AllK s (ZdL E chg cls ops l i cs rs s)
 | [], _, _, _, s => Keep.refl s
 | o :: l, i, cs, rs, s => by
  simp only [ZdL]
  refine Zyk (fun s' => ?_) (fun s' => (ZcA hE l _ _ _ _).trans (Keep.put _ _ _))
  split
  ·exact Zfu ((ZcA hE l _ _ _ _).trans (Keep.put _ _ _))
  ·split
   ·split
    ·split
     ·exact Zfu ((ZcA hE l _ _ _ _).trans (Keep.put _ _ _))
     ·exact Zai s'
    ·split
     ·refine RT.All.bind ((Ziv hE).mono fun r hr => ?_)
      cases r with
      | none => exact Zai s'
      | some r =>
       have := (hr r rfl).unmask
       exact Zfu ((ZcA hE l _ _ _ _).trans (this.keep _))
     ·exact Zai s'
   ·exact Zai s'
theorem Znc {s : St} {t : RT Out} (h : AllK s t) : AllK s (t.map (Znd s)) := RT.All.map (h.mono fun o k => by
 unfold Znd
 split
 ·exact Keep.refl s
 ·exact k)
theorem ZhR {E : Env} : ∀ (l : List Oper) (s : St), Keep s (Zgj E s l)
 | [], s => Keep.refl s
 | o :: l, s => by
  unfold Zgj
  repeat' split
  all_goals first
   | exact ZhR l s
   | (rename_i hfz; exact (Zc8 hfz).trans (ZhR l _))
theorem Zp6 {E : Env} {x0 : Ctx} {w0 w : World} {a : Act} : ∀ (l : List Oper) (x : Ctx) (s : St), RelH x0 w0 x s a w → ∃ x', RelH x0 w0 x' (Zgj E s l) a w ∧ ExtM x x'
 | [], x, s, hr => ⟨x, hr, ExtM.refl x⟩
 | o :: l, x, s, hr => by
  unfold Zgj
  repeat' split
  all_goals first
   | exact Zp6 l x s hr
   | skip
  all_goals
   rename_i vs hvs _ vs' s' hfz
   obtain ⟨x1, m1, e1, _, k1⟩ := Zes hr.r.m (ZhW hr.r.f hvs) hfz
   have hr1 : RelH x0 w0 x1 s' a w := ⟨⟨by rw [k1.sl]; exact hr.r.f.mono e1, m1, hr.r.d⟩, hr.e.trans e1, hr.t⟩
   obtain ⟨x2, hr2, hx2⟩ := Zp6 l x1 s' hr1
   exact ⟨x2, hr2, e1.extM.trans hx2⟩
theorem Zyo {E : Env} (hE : Zbl E) (ops : List Oper) (s : St) : AllK s (ZAP E ops s) :=
 Zec (Zbm (s := Zam s) (ZaB s) (Znc (ZcA hE _ _ _ _ _)))
theorem ZI6 {E : Env} (hE : Zbl E) {x0 x : Ctx} {w0 w : World} {s : St} {a : Act} {A : Array Oper} {id : Nat} {Q : Exit → Act → World → Prop} (hP : E.P.follows .mixedOrders = true) (hlex : lexL A.toList = true)
  (hr : RelH x0 w0 x s a w) (h : Hold x0 w0 x Q (ZAP E A.toList s).val) : (Code.region id A true).wp E.P Q a w := by
 unfold ZAP at h
 rw [RT.val_map] at h
 have h' := ZdU hr.reset (ZaB s) (Znc (ZcA hE _ _ _ _ _)) h.backD
 rw [RT.val_map] at h'
 exact ZLC hE hP hlex hr.reset h'
def Za3 (E : Env) (c : Code) (f : Ora) : Prop :=
 (∀ s, AllK s (f s)) ∧ ∀ x0 w0 x s a w Q, RelH x0 w0 x s a w → Hold x0 w0 x Q (f s).val → c.wp E.P Q a w
def Z5 (E : Env) : Code → Prop
 | .seq a b => Z5 E a ∧ Z5 E b
 | .cond _ a b => Z5 E a ∧ Z5 E b
 | .block id c => match c with
  | .loop b => match E.loops id with
   | some f => Za3 E (.block id (.loop b)) f
   | none => Z5 E b
  | c => Z5 E c
 | _ => True
theorem ZiP (E : Env) (id : Nat) (c : Code) (s : St) (hc : ∀ b, c ≠ .loop b) : Zbg E (.block id c) s = (Zgy (len s.mem.boxes) (len s.mem.stgs) ⟨E.named, true⟩ ((Zbg E c (Zam s)).map (unexit id))).map (backD s) := by
 cases c <;> first | rfl | exact absurd rfl (hc _)
theorem Zey {E : Env} {id : Nat} {c : Code} (hc : ∀ b, c ≠ .loop b) (h : Z5 E (.block id c)) : Z5 E c := by
 cases c <;> first | exact h | exact absurd rfl (hc _)
theorem Zfw {s : St} {id : Nat} {t : RT Out} (h : AllK s t) : AllK s (t.map (unexit id)) := RT.All.map (h.mono fun o k => by rw [Zyz]; exact k)
theorem Zf9 {round : St → RT Out} (h : ∀ s, AllK s (round s)) : ∀ (n : Nat) (s : St), AllK s (Zhz round n s)
 | 0, s => Zai s
 | n + 1, s => by
  unfold Zhz seqT
  refine RT.All.bind ((h s).mono fun o k => ?_)
  split
  ·exact (Zf9 h n o.s).trans k
  ·exact k
theorem Zaj {E : Env} (hE : Zbl E) : ∀ (c : Code) (s : St), Z5 E c → AllK s (Zbg E c s)
 | .skip, s, _ => Keep.refl s
 | .region _ ops draw, s, _ => by
  unfold Zbg
  split
  ·exact Zec (Zbm (s := Zam s) (ZaB s) (Zdc hE _ _))
  ·split
   ·exact Zai s
   ·exact (Zyo hE _ _).trans (ZhR (E := E) _ _)
 | .seq c d, s, h => by
  unfold Zbg seqT
  refine RT.All.bind ((Zaj hE c s h.1).mono fun o k => ?_)
  split
  ·exact (Zaj hE d o.s h.2).trans k
  ·exact k
 | .cond x c d, s, h => by
  unfold Zbg
  split
  ·split
   ·exact Zaj hE c s h.1
   ·exact Zaj hE d s h.2
  ·exact Zec (Zhn (s := Zam s) (ZaB s) (Zaj hE d _ h.2) (Zaj hE c _ h.1))
  ·exact Zai s
 | .block id c, s, h => by
  by_cases hc : ∀ b, c ≠ .loop b
  ·rw [ZiP E id c s hc]
   exact Zec (Zbm (s := Zam s) (ZaB s) (Zfw (Zaj hE c _ (Zey hc h))))
  ·have : ∃ b, c = .loop b := by
    cases c <;> first | exact ⟨_, rfl⟩ | exact absurd (fun b e => by cases e) hc
   obtain ⟨b, rfl⟩ := this
   unfold Zbg
   unfold Z5 at h
   split
   ·rename_i f hf
    simp only [hf] at h
    exact h.1 s
   ·rename_i hf
    simp only [hf] at h
    exact Zec (Zbm (s := Zam s) (ZaB s) (Zfw (Zf9 (fun s' => Zaj hE b s' h) _ _)))
 | .exit _, s, _ => Keep.refl s
 | .ret, s, _ => Keep.refl s
 | .loop _, s, _ => Zai s
 | .rangeFunc .., s, _ => Zai s
 | .scope _, s, _ => Zai s
 | .label _, s, _ => Zai s
 | .goto _, s, _ => Zai s
 | .refuse _, s, _ => Zai s
theorem Zsb {P : Program} {x0 : Ctx} {w0 : World} {b : Code} {round : St → RT Out} {Q : Exit → Act → World → Prop}
  (hb : ∀ (x : Ctx) (s : St) (a : Act) (w : World) (Q : Exit → Act → World → Prop), RelH x0 w0 x s a w → Hold x0 w0 x Q (round s).val → b.wp P Q a w) :
  ∀ (n : Nat) (x : Ctx) (s : St) (a : Act) (w : World), RelH x0 w0 x s a w → Hold x0 w0 x Q (Zhz round n s).val → Code.rounds P b Q n a w
 | 0, x, s, a, w, hr, h => (Hold.stop hr h).elim
 | n + 1, x, s, a, w, hr, h => by
  rw [rounds_succ]
  unfold Zhz seqT at h
  rw [RT.val_bind] at h
  refine hb x s a w _ hr fun x' a' w' hr' hx' => ?_
  generalize hv : (round s).val = o at *
  obtain ⟨k, s'⟩ := o
  cases k with
  | normal => exact Zsb hb n x' s' a' w' hr' (h.ext hx')
  | exit i => exact h x' a' w' hr' hx'
  | ret => exact h x' a' w' hr' hx'
  | stop => exact h x' a' w' hr' hx'
theorem ZbQ {E : Env} (hE : Zbl E) {x0 : Ctx} {w0 : World} : ∀ (c : Code), Z5 E c → ∀ (x : Ctx) (s : St) (a : Act) (w : World) (Q : Exit → Act → World → Prop),
  RelH x0 w0 x s a w → Hold x0 w0 x Q (Zbg E c s).val → c.wp E.P Q a w
 | .skip, _, x, s, a, w, Q, hr, h => wp_skip (h x a w hr (ExtM.refl x))
 | .region id ops draw, _, x, s, a, w, Q, hr, h => by
  unfold Zbg at h
  split at h
  ·rw [RT.val_map] at h
   have h' := ZdU hr.reset (ZaB s) (Zdc hE _ _) h.backD
   exact wp_region_list (by have := ZrV hE ops.toList x w _ a hr.reset h'; simpa using this)
  ·split at h
   ·exact (Hold.stop hr h).elim
   ·rename_i hd
    simp only [Bool.and_eq_true] at hd
    obtain ⟨x', hr', hx'⟩ := Zp6 (E := E) ops.toList x s hr
    exact ZI6 hE hd.2 hd.1 hr' (h.ext hx')
 | .seq c d, hl, x, s, a, w, Q, hr, h => by
  unfold Zbg seqT at h
  rw [RT.val_bind] at h
  refine wp_seq (ZbQ hE c hl.1 x s a w _ hr fun x' a' w' hr' hx' => ?_)
  generalize hv : (Zbg E c s).val = o at *
  obtain ⟨k, s'⟩ := o
  cases k with
  | normal => exact ZbQ hE d hl.2 x' s' a' w' Q hr' (h.ext hx')
  | exit i => exact h x' a' w' hr' hx'
  | ret => exact h x' a' w' hr' hx'
  | stop => exact h x' a' w' hr' hx'
 | .cond y c d, hl, x, s, a, w, Q, hr, h => by
  unfold Zbg at h
  split at h
  ·rename_i b hb
   have hv := Zcf (Zav hr.r.f hb)
   cases b with
   | true => exact wp_cond_true hv (ZbQ hE c hl.1 x s a w Q hr h)
   | false => exact wp_cond_false hv (ZbQ hE d hl.2 x s a w Q hr h)
  ·rename_i b hb
   have hv := Zcf (Zav hr.r.f hb)
   rw [RT.val_map] at h
   have hr' : RelH x0 w0 x (Zam s) a w := hr.ofMem rfl rfl
   have h' := Zih hr' (Zaj hE d _ hl.2) (Zaj hE c _ hl.1) h.backD
   cases b with
   | true => exact wp_cond_true hv (ZbQ hE c hl.1 x _ a w Q hr' h')
   | false => exact wp_cond_false hv (ZbQ hE d hl.2 x _ a w Q hr' h')
  ·exact (Hold.stop hr h).elim
 | .block id c, hl, x, s, a, w, Q, hr, h => by
  by_cases hc : ∀ b, c ≠ .loop b
  ·rw [ZiP E id c s hc, RT.val_map] at h
   have hr' : RelH x0 w0 x (Zam s) a w := hr.ofMem rfl rfl
   have h' := ZdU hr' (ZaB s) (Zfw (Zaj hE c _ (Zey hc hl))) h.backD
   rw [RT.val_map] at h'
   exact wp_block (ZbQ hE c (Zey hc hl) x _ a w _ hr' h'.unexit)
  ·have : ∃ b, c = .loop b := by
    cases c <;> first | exact ⟨_, rfl⟩ | exact absurd (fun b e => by cases e) hc
   obtain ⟨b, rfl⟩ := this
   unfold Zbg at h
   unfold Z5 at hl
   split at h
   ·rename_i f hf
    simp only [hf] at hl
    exact hl.2 x0 w0 x s a w Q hr h
   ·rename_i hf
    simp only [hf] at hl
    rw [RT.val_map] at h
    have hr' : RelH x0 w0 x (Zam s) a w := hr.ofMem rfl rfl
    have h' := ZdU hr' (ZaB s) (Zfw (Zf9 (fun s' => Zaj hE b s' hl) _ _)) h.backD
    rw [RT.val_map] at h'
    exact wp_block (wp_loop_rounds E.fuel (Zsb (fun x s a w Q hr h => ZbQ hE b hl x s a w Q hr h) E.fuel x _ a w hr' h'.unexit))
 | .exit i, _, x, s, a, w, Q, hr, h => wp_exit (h x a w hr (ExtM.refl x))
 | .ret, _, x, s, a, w, Q, hr, h => wp_ret (h x a w hr (ExtM.refl x))
 | .loop _, _, x, s, a, w, Q, hr, h => (Hold.stop hr h).elim
 | .rangeFunc .., _, x, s, a, w, Q, hr, h => (Hold.stop hr h).elim
 | .scope _, _, x, s, a, w, Q, hr, h => (Hold.stop hr h).elim
 | .label _, _, x, s, a, w, Q, hr, h => (Hold.stop hr h).elim
 | .goto _, _, x, s, a, w, Q, hr, h => (Hold.stop hr h).elim
 | .refuse _, _, x, s, a, w, Q, hr, h => (Hold.stop hr h).elim
def resG (tmps : Array Value) : ResultVar → Sem Value
 | .tmp t => pure (tmps.getD t undef)
 | .cell c t => do loadVar t (← asAddr (tmps.getD c undef))
theorem ZA6 (fn : Func) (tmps : Array Value) : results fn tmps = (do let vs ← fn.results.mapM (resG tmps); pure (if h : vs.size = 1 then vs[0] else .tuple vs)) := by
 unfold results
 congr 1
theorem Zge {P : Program} {x : Ctx} {w : World} {s : St} {a : Act} (hr : Rel x s a w) : ∀ (l : List ResultVar) (ws : List W), ZdF P s l = some ws →
  ∃ vs, RWs x ws vs ∧ (l.mapM (resG a.tmps)).run P w = .ok vs w
 | [], ws, h => by
  simp only [ZdF, oinj] at h; subst h
  exact ⟨[], trivial, by simp⟩
 | .tmp t :: l, ws, h => by
  simp only [ZdF] at h
  split at h
  ·rename_i y r hy hl
   simp only [oinj] at h; subst h
   obtain ⟨vs, h1, h2⟩ := Zge hr l r hl
   refine ⟨a.tmps.getD t undef :: vs, ⟨hr.f.slot t _ hy, h1⟩, ?_⟩
   rw [List.mapM_cons]
   simp only [resG, Sem.run_bind, Sem.run_pure, Result.andThen_ok]
   rw [h2]; rfl
  ·simp at h
 | .cell t ty :: l, ws, h => by
  simp only [ZdF] at h
  split at h
  ·rename_i p r hp hl
   split at h
   ·rename_i y hy
    simp only [oinj] at h; subst h
    obtain ⟨vs, h1, h2⟩ := Zge hr l r hl
    have hpv := hr.f.slot t _ hp
    obtain ⟨u, h3, h4⟩ := ZAs (P := P) hr.m.toR hpv hy
    have h3 := h3 w (ZT.refl w)
    refine ⟨u :: vs, ⟨h4, h1⟩, ?_⟩
    rw [List.mapM_cons]
    have h5 : (resG a.tmps (.cell t ty)).run P w = .ok u w := by
     show ((do loadVar ty (← asAddr (a.tmps.getD t undef)) : Sem Value)).run P w = .ok u w
     unfold Zx6 at hy
     split at hy
     ·rename_i q hq
      obtain ⟨b, o, e, _⟩ := Zod hr.m.toR hpv hq
      rw [e] at h3 ⊢
      simpa [Instr.loadAt, Instr.sureAddr, asAddr] using h3
     ·simp at hy
    rw [Sem.run_bind, h5]
    simp only [Result.andThen_ok]
    rw [Sem.run_bind, h2]; rfl
   ·simp at h
  ·simp at h
theorem ZA7 {P : Program} {x : Ctx} {w : World} {s : St} {a : Act} (hr : Rel x s a w) {fn : Func} {v : V} (h : ZoD P fn s = some v) :
  ∃ val, (results fn a.tmps).run P w = .ok val w ∧ RV x v val := by
 unfold ZoD at h
 have key : ∀ ws, ZdF P s fn.results.toList = some ws → ∃ vs, RWs x ws vs ∧ (fn.results.mapM (resG a.tmps)).run P w = .ok vs.toArray w := by
  intro ws hws
  obtain ⟨vs, h1, h2⟩ := Zge (P := P) hr _ _ hws
  refine ⟨vs, h1, ?_⟩
  rw [Array.mapM_eq_mapM_toList, Sem.run_map, h2]
  rfl
 have fin : ∀ vs : List Value, (fn.results.mapM (resG a.tmps)).run P w = .ok vs.toArray w →
   (results fn a.tmps).run P w = .ok (if h : vs.toArray.size = 1 then vs.toArray[0] else .tuple vs.toArray) w := by
  intro vs hvs
  rw [ZA6, Sem.run_bind, hvs]
  rfl
 split at h
 ·rename_i y hy
  simp only [oinj] at h; subst h
  obtain ⟨vs, h1, h2⟩ := key _ hy
  match vs, h1 with
  | [u], h1 => exact ⟨u, by have := fin [u] h2; simpa using this, h1.1⟩
 ·rename_i l hne hl
  simp only [oinj] at h; subst h
  obtain ⟨vs, h1, h2⟩ := key _ hl
  refine ⟨.tuple vs.toArray, ?_, vs, rfl, h1⟩
  have := fin vs h2
  rw [this]
  have hlen : vs.toArray.size ≠ 1 := by
   intro e
   match vs, h1 with
   | [u], h1 =>
    match l, h1 with
    | [y], _ => exact hne y rfl
   | [], _ => simp at e
   | _ :: _ :: _, _ => simp at e
  rw [dif_neg hlen]
 ·simp at h
theorem ZEN {α : Type} (x : α) : ∀ n, rep x n = List.replicate n x
 | 0 => rfl
 | n + 1 => by simp [rep, ZEN x n, List.replicate_succ]
theorem RVs.length {x : Ctx} : ∀ {l : List V} {vs : List Value}, RVs x l vs → l.length = vs.length
 | [], [], _ => rfl
 | _ :: l, _ :: r, h => by have := RVs.length (l := l) (vs := r) h.2; simp only [List.length_cons, this]
 | [], _ :: _, h => h.elim
 | _ :: _, [], h => h.elim
theorem RVs.nth {x : Ctx} : ∀ {l : List V} {vs : List Value}, RVs x l vs → ∀ (j : Nat) (a : V), nth l j = some a → ∃ v, vs[j]? = some v ∧ RV x a v
 | [], [], _, j, a, e => by simp [S3.nth] at e
 | b :: l, v :: r, h, 0, a, e => by simp [S3.nth] at e; subst e; exact ⟨v, by simp, h.1⟩
 | b :: l, v :: r, h, j + 1, a, e => by simp only [S3.nth] at e; simpa using RVs.nth h.2 j a e
 | [], _ :: _, h, _, _, _ => h.elim
 | _ :: _, [], h, _, _, _ => h.elim
theorem ZJJ {x : Ctx} {m : Mem} {w : World} (hm : MemOk x m w) {vs : List V} {args : List Value} (hv : RVs x vs args) (fn : Func) :
  Rel x (ZA2 fn vs m) { tmps := args.toArray ++ Array.replicate (fn.ntmps - args.toArray.size) undef, defers := [] } w := by
 have hl := hv.length
 refine ⟨⟨?_, fun i v h => ?_⟩, hm, rfl⟩
 ·simp [ZA2, ZEN, Zak, hl]
 ·simp only [ZA2, ZEN, Zak] at h
  rw [Zt] at h
  by_cases hi : i < vs.length
  ·rw [List.getElem?_append_left hi, ← Zt] at h
   obtain ⟨u, h1, h2⟩ := hv.nth i v h
   have : (args.toArray ++ Array.replicate (fn.ntmps - args.toArray.size) undef).getD i undef = u := by
    rw [Array.getD_eq_getD_getElem?, Array.getElem?_append_left (by simp; omega)]
    simp [h1]
   rw [this]; exact h2
  ·rw [List.getElem?_append_right (by omega)] at h
   have hv : v = Zis := by
    rw [List.getElem?_replicate] at h
    split at h <;> simp at h
    exact h.symm
   subst hv
   have : (args.toArray ++ Array.replicate (fn.ntmps - args.toArray.size) undef).getD i undef = undef := by
    rw [Array.getD_eq_getD_getElem?, Array.getElem?_append_right (by simp; omega)]
    rw [Array.getElem?_replicate]
    split <;> rfl
   rw [this]
   exact ⟨[], rfl, trivial⟩
theorem ZaV {E : Env} (hE : Zbl E) {f : FuncId} {fn : Func} {c : Code} (hf : E.P.funcs[f]? = some fn) (hb : fn.body = some c) (hl : Z5 E c)
  {x : Ctx} {m : Mem} {w : World} {vs : List V} {args : List Value} (hm : MemOk x m w) (hv : RVs x vs args) {r : Res} (h : (ZN E fn vs m).val = some r) :
  Calls E.P f args.toArray w (fun e w' => ∃ val x', e = .returned val ∧ RV x' r.v val ∧ MemOk x' r.m w' ∧ Ext x x' ∧ Step x w w') := by
 unfold ZN at h
 rw [hb] at h
 simp only [RT.val_map] at h
 refine calls_of_wp hf hb (ZbQ hE (x0 := x) (w0 := w) c hl x _ _ w _ ⟨ZJJ hm hv fn, Ext.refl x, Step.refl x w⟩ ?_)
 intro x' a' w' hr _
 generalize hv : (Zbg E c (ZA2 fn vs m)).val = o at *
 have fin : ∀ s' v, o.s = s' → ZoD E.P fn s' = some v → ofSt s' none v = r → a'.defers = [] ∧ ∃ val, (results fn a'.tmps).run E.P w' = .ok val w' ∧
   (∃ val' x'', Ending.returned val = Ending.returned val' ∧ RV x'' r.v val' ∧ MemOk x'' r.m w' ∧ Ext x x'' ∧ Step x w w') := by
  intro s' v hs hrv hmm
  subst hs
  obtain ⟨val, h1, h2⟩ := ZA7 hr.r hrv
  subst hmm
  exact ⟨hr.r.d, val, h1, val, x', rfl, h2, hr.r.m, hr.e, hr.t⟩
 unfold ZAL at h
 split at h
 ·rename_i hk
  rw [hk]
  split at h
  ·rename_i u hu
   simp only [oinj] at h
   exact fin o.s u rfl hu h
  ·simp at h
 ·rename_i hk
  rw [hk]
  split at h
  ·rename_i u hu
   simp only [oinj] at h
   exact fin o.s u rfl hu h
  ·simp at h
 ·simp at h
theorem Zyl {P : Program} {fn : Func} {vs : List V} {m : Mem} {o : Out} (h : Keep (ZA2 fn vs m) o.s) {r : Res} (hr : ZAL P fn o = some r) : KeepC m r := by
 have fin : ∀ v, ofSt o.s none v = r → KeepC m r := by
  intro v hv; subst hv
  exact ⟨h.bl, fun b l hl => by
   obtain ⟨l', h1, h2, h3⟩ := h.box b l hl
   exact ⟨l', h1, h2, fun j hj => (h3 j hj).2⟩, h.gl, fun i g hg => by
   obtain ⟨g', h1, h2, h3⟩ := h.stg i g hg
   exact ⟨g', h1, h2, fun hj => (h3 hj).2⟩⟩
 unfold ZAL at hr
 split at hr
 ·split at hr
  ·simp only [oinj] at hr; exact fin _ hr
  ·simp at hr
 ·split at hr
  ·simp only [oinj] at hr; exact fin _ hr
  ·simp at hr
 ·simp at hr
theorem Zyn {E : Env} (hE : Zbl E) {fn : Func} {c : Code} (hb : fn.body = some c) (hl : Z5 E c) (vs : List V) (m : Mem) : (ZN E fn vs m).All (fun r => ∀ q, r = some q → KeepC m q) := by
 unfold ZN
 rw [hb]
 exact RT.All.map ((Zaj hE c _ hl).mono fun o h q hq => Zyl h hq)
theorem ZIB {E : Env} (hE : Zbl E) {f : FuncId} {fn : Func} {c : Code} (hf : E.P.funcs[f]? = some fn) (hb : fn.body = some c) (hl : Z5 E c) (hcall : ZR E.P f) :
  Zc E.P f (.tree (ZN E fn)) :=
 ⟨hcall, Zyn hE hb hl, fun _ _ _ hr _ _ _ _ hm hv => ZaV hE hf hb hl hm hv hr⟩
def Ctx.own0 (w : World) (fz : Nat → Nat → Option Value) : Ctx := { own := fun k => w.heap.size ≤ k, M := [], S := [], fz := fz }
theorem Zxz {x : Ctx} {m : Mem} {w : World} (hm : MemOk x m w) : MemOk (Ctx.own0 w x.fz) ZdM w where
 fresh := fun _ h => h
 fz := hm.fz
 ml := rfl
 box := fun b l p h => by simp [ZdM, Zy] at h
 mown := fun b p h => by simp [Ctx.own0, Zy] at h
 inj := fun b b' p h => by simp [Ctx.own0, Zy] at h
 sl := rfl
 stg := fun i g s h => by simp [ZdM, Zy] at h
 sown := fun i s p cap h => by simp [Ctx.own0, Zy] at h
 sinj := fun i i' s s' p cap cap' h => by simp [Ctx.own0, Zy] at h
theorem ZbA {w w' : World} {fz : Nat → Nat → Option Value} (h : Step (Ctx.own0 w fz) w w') : ZcT w w' :=
 ⟨⟨h.size, fun k hk => h.block k (by simp [Ctx.own0]; omega)⟩, h.os, h.tape, h.output⟩
theorem Zyv {x : Ctx} {m : Mem} {w w' : World} {x2 : Ctx} (hm : MemOk x m w) (hx : Ext (Ctx.own0 w x.fz) x2) (hz : ∀ b o v, x2.fz b o = some v → w'.cell? ⟨b, o, none⟩ = some v) (hs : ZT w w') :
  MemOk { x with fz := x2.fz } m w' ∧ Ext x { x with fz := x2.fz } := by
 have hold : ∀ b, b < w.heap.size → ∀ o, x2.fz b o = x.fz b o := by
  intro b hb o
  cases h : x2.fz b o with
  | some v =>
   rcases hx.new b o v h with e | e
   ·exact e.symm
   ·simp [Ctx.own0] at e; omega
  | none =>
   cases h' : x.fz b o with
   | none => rfl
   | some v => rw [hx.fz b o v h'] at h; simp at h
 have hle : FzLe x { x with fz := x2.fz } := fun b o v e => hx.fz b o v e
 have hext : Ext x { x with fz := x2.fz } := by
  refine ⟨rfl, fun _ _ e => e, fun _ s e => ⟨s, e, SLe.refl s⟩, hx.fz, fun b o v e => ?_⟩
  rcases hx.new b o v e with e | e
  ·exact .inl e
  ·exact .inr (hm.fresh b e)
 refine ⟨?_, hext⟩
 have h := hm.old hs
 refine ⟨h.fresh, hz, h.ml, fun b l p h1 h2 => ?_, fun b p h1 => ⟨(h.mown b p h1).1, fun o => ?_⟩, h.inj, h.sl, fun i g s h1 h2 => ?_, h.sown, h.sinj⟩
 ·obtain ⟨C, T, e1, e2⟩ := h.box b l p h1 h2
  exact ⟨C, T, e1, e2.mono hext⟩
 ·show x2.fz p o = none
  rw [hold p (hm.M_lt h1) o]; exact (hm.mown b p h1).2 o
 ·exact (h.stg i g s h1 h2).ctx hle fun p cap hb o => hold p (hm.S_lt h2 hb) o
end Go.S3
