/-
  Soundness of the symbolic executor, part 7: parts, lengths, elements of slices; slices that are made. Conditions: none (lemmas).
-/
import Derived.Test.YtiflfdlglncjlaaS3Fz
set_option linter.unusedSimpArgs false
set_option linter.unusedVariables false
namespace Go.S3
variable {P : Program}

/-! ### numbers that may be missing -/
theorem opdI_ok {x : Ctx} {s : St} {a : Act} (hf : RF x s.slots a.tmps) {d : Option Operand} {z p : Bool × Int} (h : opdI s d z = some p) :
    (d = none ∧ p = z) ∨ ∃ o k, d = some o ∧ a.eval o = .int k p.2 := by
  unfold opdI at h
  split at h
  · simp only [Option.some.injEq] at h; exact .inl ⟨rfl, h.symm⟩
  · rename_i o
    split at h
    · rename_i l k n hn
      simp only [Option.some.injEq] at h; subst h
      exact .inr ⟨o, k, rfl, (int_of (opd1_ok hf hn)).1⟩
    · simp at h

/-- What the bound stands for. -/
def bnd (d : Option Value) (z : Int) : Option Int := match d with
  | none => some z
  | some (.int _ n) => some n
  | _ => none
theorem opdI_bnd {x : Ctx} {s : St} {a : Act} (hf : RF x s.slots a.tmps) {d : Option Operand} {z p : Bool × Int} (h : opdI s d z = some p) : bnd (d.map a.eval) z.2 = some p.2 := by
  rcases opdI_ok hf h with ⟨rfl, rfl⟩ | ⟨o, k, rfl, e⟩
  · rfl
  · simp [bnd, e]
theorem run_sliceAt {w : World} {t elem : TypeId} (ht : P.underlying t = some (.slice elem)) {i : TypeInfo} (hi : P.info? elem = some i) (b : Option Addr) (n cap : Nat) (hn : n ≤ cap) (lo hi' mx : Option Value) (l h m : Int)
    (hl : bnd lo 0 = some l) (hh : bnd hi' n = some h) (hm : bnd mx h = some m) (hmh : m = h) (hms : mx.isSome = true → hi'.isSome = true) (h0 : 0 ≤ l) (h1 : l ≤ h) (h2 : h ≤ n) :
    (Instr.sliceAt t (.slice b n cap) lo hi' mx).run P w = .ok (.slice (if (if mx.isSome then h.toNat else cap) = l.toNat then b else b.map (·.add (l.toNat * i.size))) (h.toNat - l.toNat) ((if mx.isSome then h.toNat else cap) - l.toNat)) w := by
  subst hmh
  have hb : ∀ (d : Value) (k : IntKind) (v : Int) (y : Nat) (c : BoundsCode), d = .int k v → 0 ≤ v → v ≤ y → (Instr.sliceBound d y c).run P w = .ok v.toNat w := by
    intro d k v y c e e1 e2
    subst e
    simp [Instr.sliceBound, asIntOf, e1, e2]
  have int_bnd : ∀ (d : Value) (z v : Int), bnd (some d) z = some v → ∃ k, d = .int k v := by
    intro d z v e
    unfold bnd at e
    split at e
    · rename_i e'; simp at e'
    · rename_i k n e'
      simp only [Option.some.injEq] at e e'
      subst e; exact ⟨k, e'⟩
    · simp at e
  have hm0 : 0 ≤ m := by omega
  have key : ∀ L H M : Nat, L = l.toNat → H = m.toNat → (Instr.sliceBounds true n cap lo hi' mx).run P w = .ok (L, H, M) w →
      (Instr.sliceAt t (.slice b n cap) lo hi' mx).run P w = .ok (.slice (if M = L then b else b.map (·.add (L * i.size))) (H - L) (M - L)) w := by
    intro L H M _ _ hs
    simp [Instr.sliceAt, run_underlying ht, Instr.slice, hs, sizeOf, typeInfo, hi]
  have hb' : ∀ (d : Value) (z v : Int) (y : Nat) (c : BoundsCode), bnd (some d) z = some v → 0 ≤ v → v ≤ y → (Instr.sliceBound d y c).run P w = .ok v.toNat w := by
    intro d z v y c e e1 e2
    obtain ⟨k, e3⟩ := int_bnd d z v e
    exact hb d k v y c e3 e1 e2
  cases mx with
  | some mv =>
    cases hi' with
    | none => simp at hms
    | some hv =>
      have r1 := hb' mv m m cap .slice3Acap hm hm0 (by omega)
      have r2 := hb' hv n m m.toNat .slice3B hh hm0 (by omega)
      cases lo with
      | none =>
        have : l = 0 := by simpa [bnd] using hl.symm
        subst this
        exact key 0 _ _ rfl rfl (by simp [Instr.sliceBounds, r1, r2])
      | some lv =>
        have r3 := hb' lv 0 l m.toNat .slice3C hl h0 (by omega)
        exact key _ _ _ rfl rfl (by simp [Instr.sliceBounds, r1, r2, r3])
  | none =>
    cases hi' with
    | none =>
      have : m = n := by simpa [bnd] using hh.symm
      subst this
      cases lo with
      | none =>
        have : l = 0 := by simpa [bnd] using hl.symm
        subst this
        have := key 0 n cap rfl rfl (by simp [Instr.sliceBounds])
        simpa using this
      | some lv =>
        have r3 := hb' lv 0 l n .sliceB hl h0 (by omega)
        have := key l.toNat n cap rfl rfl (by simp [Instr.sliceBounds, r3])
        simpa using this
    | some hv =>
      have r2 := hb' hv n m cap .sliceAcap hh hm0 (by omega)
      cases lo with
      | none =>
        have : l = 0 := by simpa [bnd] using hl.symm
        subst this
        exact key 0 _ _ rfl rfl (by simp [Instr.sliceBounds, r2])
      | some lv =>
        have r3 := hb' lv 0 l m.toNat .sliceB hl h0 (by omega)
        exact key _ _ _ rfl rfl (by simp [Instr.sliceBounds, r2, r3])

theorem subL_len {α : Type} {l : List α} {a b : Int} (h2 : b ≤ l.length) : (subL l a b).length = b.toNat - a.toNat := by
  unfold subL
  simp; omega
theorem elN_sub {r : R} {l : List r.den} {a b : Int} {i : Nat} (hi : i < b.toNat - a.toNat) : elN r (subL l a b) i = elN r l (a.toNat + i) := by
  simp only [elN, subL, List.getD_eq_getElem?_getD, List.getElem?_take, if_pos hi, List.getElem?_drop]

theorem sliceB_ok {x : Ctx} {s : St} {a : Act} {w : World} (hf : RF x s.slots a.tmps) (hm : MemR x s.mem w) {t : TypeId} {xa : A} {vx : Value} (hx : RA x xa vx) (hnt : ∀ h v, xa ≠ .tip h v) {low high max : Option Operand} {res : Res}
    (h : sliceB P s t xa low high max = some res) (hc : res.chk ≠ some false) :
    res.m = s.mem ∧ res.bd = s.bd ∧ res.sd = s.sd ∧ ∃ v, (∀ w', (Instr.sliceAt t vx (low.map a.eval) (high.map a.eval) (max.map a.eval)).run P w' = .ok v w') ∧ RV x res.v v := by
  unfold sliceB at h
  split at h
  case h_2 => simp at h
  rename_i elem hu
  split at h
  case h_2 => simp at h
  rename_i r hel
  obtain ⟨i, z, hi, hz, hzs, hsz, hby, hw⟩ := elemT_of hel
  split at h
  case h_2 => simp at h
  rename_i q hq
  split at h
  case h_2 => simp at h
  rename_i l hh hl hhh
  split at h
  case h_2 => simp at h
  rename_i m hmm
  split at h
  case h_2 => simp at h
  rename_i hmh
  simp only [Bool.and_eq_true, decide_eq_true_eq, Bool.not_eq_true', Bool.and_eq_false_iff] at hmh
  obtain ⟨hmh, hms⟩ := hmh
  have hms : max.isSome = true → high.isSome = true := by
    intro e
    rcases hms with h' | h'
    · rw [e] at h'; simp at h'
    · cases high <;> simp at h' ⊢
  split at h
  case h_2 => simp at h
  rename_i chk hchk
  simp only [ofSt, Option.some.injEq] at h; subst h
  have hb := litC_ok hchk hc
  simp only [Bool.and_eq_true, Bool.or_eq_true, decide_eq_true_eq] at hb
  obtain ⟨⟨h0, h1⟩, h2'⟩ := hb
  have h2 : hh.2 ≤ (q.l.length : Int) := by omega
  refine ⟨rfl, rfl, rfl, ?_⟩
  have e1 := opdI_bnd hf hl
  have e2 := opdI_bnd hf hhh
  have e3 := opdI_bnd hf hmm
  have hms' : (max.map a.eval).isSome = true → (high.map a.eval).isSome = true := by simpa using hms
  obtain ⟨b, cap, news, rfl, SX⟩ := sqOf_ok hm hx hq
  refine ⟨_, fun w' => run_sliceAt (P := P) (w := w') hu hi b q.l.length cap SX.hcap _ _ _ l.2 hh.2 m.2 e1 e2 e3 hmh hms' h0 h1 h2, ?_⟩
  have hlen := subL_len (a := l.2) (b := hh.2) h2
  -- the cells
  have hcases : (xa = .nilsl ∧ q.l = [] ∧ b = none ∧ q.full = true) ∨ ∃ lit full nn, xa = .lst r lit full nn q.l ∧ q.full = full := by
    cases xa with
    | nilsl =>
      simp only [sqOf, Option.some.injEq] at hq; subst hq
      cases hx
      exact .inl ⟨rfl, rfl, rfl, rfl⟩
    | lst r' lit full nn l' =>
      simp only [sqOf] at hq
      split at hq
      · rename_i e _
        simp only [Option.some.injEq] at hq; subst hq
        cases e
        exact .inr ⟨lit, full, nn, rfl, rfl⟩
      · simp at hq
    | tip h v => exact absurd rfl (hnt h v)
    | _ => simp [sqOf] at hq
  have hmx : (max.map a.eval).isSome = max.isSome := by simp
  rw [hmx]
  generalize hM : (if max.isSome = true then hh.2.toNat else cap) = M
  have hM1 : hh.2.toNat ≤ M := by
    rw [← hM]; split
    · exact Nat.le_refl _
    · have := SX.hcap; omega
  have hfull : ((q.full && high.isNone) || max.isSome) = true → M - l.2.toNat = hh.2.toNat - l.2.toNat := by
    intro e
    simp only [Bool.or_eq_true, Bool.and_eq_true] at e
    rcases e with ⟨e, e'⟩ | e
    · have hcap := SX.hfull e
      cases high with
      | some o => simp at e'
      | none =>
        have hmax : max.isSome = false := by
          cases hmx' : max.isSome with
          | false => rfl
          | true => have := hms hmx'; simp at this
        simp only [opdI, Option.some.injEq] at hhh
        rw [hmax] at hM
        simp at hM
        rw [← hM, hcap, ← hhh]; simp
    · rw [e] at hM
      simp at hM
      rw [hM]
  show RA x (.lst r (l.1 && hh.1) ((q.full && high.isNone) || max.isSome) (nnA xa) (subL q.l l.2 hh.2)) _
  rw [← hlen] at hfull ⊢
  by_cases he : hh.2.toNat - l.2.toNat = 0
  · have hl0 : subL q.l l.2 hh.2 = [] := List.eq_nil_of_length_eq_zero (by rw [hlen]; exact he)
    have : (subL q.l l.2 hh.2).length = 0 := by rw [hlen]; exact he
    rw [this] at hfull ⊢
    refine .lst0 _ _ _ _ _ _ _ _ hl0 hfull (fun e => ?_)
    rcases hcases with ⟨rfl, _, _, _⟩ | ⟨lit, full, nn, rfl, _⟩
    · simp [nnA] at e
    · have hbs : b.isSome = true := by
        simp only [nnA] at e
        obtain ⟨a', cap', news', e1', _, hs⟩ := slOk_lst hm hx
        injection e1' with e1' _ _
        rw [e1']; exact hs e
      split
      · exact hbs
      · simpa using hbs
  · have hne : subL q.l l.2 hh.2 ≠ [] := fun e => by rw [e] at hlen; simp at hlen; omega
    rcases hcases with ⟨_, hq0, _, _⟩ | ⟨lit, full, nn, rfl, _⟩
    · rw [hq0] at h2; simp at h2; omega
    · generalize hvx : Value.slice b q.l.length cap = vx at hx
      cases hx with
      | lst0 _ _ _ _ _ _ _ _ h3 _ _ => rw [h3] at h2; simp at h2; omega
      | lst _ _ _ _ _ _ p o _ c g0 g1 g2 gm g3 g4 =>
        injection hvx with hvx1 _ _
        subst hvx1
        rw [if_neg (by omega)]
        simp only [Option.map_some, add_none]
        refine .lst _ _ _ _ _ _ p _ _ (fun i' j => c (l.2.toNat + i') j) hne hfull (by rw [hlen]; omega) (by rw [hlen]; omega) (fun i' j d hi' hd => ?_) (fun i' j d hi' hd => ?_)
        · rw [hlen] at hi'
          rw [elN_sub hi'] at hd
          have := g3 (l.2.toNat + i') j d (by omega) hd
          rw [← this]
          congr 1
          rw [Nat.add_mul, hw]; omega
        · rw [hlen] at hi'
          rw [elN_sub hi'] at hd
          exact g4 (l.2.toNat + i') j d (by omega) hd

/-! ### elements, lengths, strings -/
theorem run_indexAt_slice {w : World} {t elem : TypeId} (ht : P.underlying t = some (.slice elem)) {i : TypeInfo} (hi : P.info? elem = some i) (b : Addr) (n cap : Nat) (k : IntKind) (j : Int) (h0 : 0 ≤ j) (h1 : j < n) :
    (Instr.indexAt t (.slice (some b) n cap) (.int k j)).run P w = .ok (.pointer (some (b.add (j.toNat * i.size)))) w := by
  simp [Instr.indexAt, asIntOf, run_underlying ht, h0, h1, sizeOf, typeInfo, hi]
theorem run_indexAt_array {w : World} {t elem : TypeId} {m : Nat} (ht : P.underlying t = some (.array m elem)) {n : Nat} (hn : sizeT P elem = some n) (b : Addr) (k : IntKind) (j : Int) (h0 : 0 ≤ j) (h1 : j < m) :
    (Instr.indexAt t (.pointer (some b)) (.int k j)).run P w = .ok (.pointer (some (b.add (j.toNat * n)))) w := by
  simp [Instr.indexAt, asIntOf, run_underlying ht, h0, h1, sizeT_run hn, Instr.sureAddr]
theorem inRng_iff {i : Int} {n : Nat} : inRng i n = true ↔ 0 ≤ i ∧ i < n := by simp [inRng]

theorem indexAddrA_ok {x : Ctx} {s : St} {w : World} (hm : MemR x s.mem w) {t : TypeId} {xa ia : A} {vx vi : Value} (hx : RA x xa vx) (hi : RA x ia vi) {res : Res} (h : indexAddrA P s t xa ia = some res) (hc : res.chk ≠ some false) :
    res.m = s.mem ∧ res.bd = s.bd ∧ res.sd = s.sd ∧ ∃ v, (∀ w', (Instr.indexAt t vx vi).run P w' = .ok v w') ∧ RV x res.v v := by
  unfold indexAddrA at h
  split at h
  · rename_i elem lit ik j hu
    obtain ⟨rfl, hir⟩ := int_of hi
    split at h
    case h_2 => simp at h
    rename_i r hel
    obtain ⟨i, z, hi', hz, hzs, hsz, hby, hw⟩ := elemT_of hel
    split at h
    · rename_i hh ver
      split at h
      case h_2 => simp at h
      rename_i g hg
      split at h
      case h_2 => simp at h
      rename_i e he
      split at h
      case h_2 => simp at h
      rename_i chk hchk
      simp only [ofSt, Option.some.injEq] at h; subst h
      have hb := litC_ok hchk hc
      rw [inRng_iff] at hb
      obtain ⟨si, hs, hok, rfl⟩ := tip_of hm hx hg
      obtain ⟨hg1, hg2⟩ := stgOf_some hg
      have hr : g.r = r := R.same_eq he
      refine ⟨rfl, rfl, rfl, ?_⟩
      have hbl : ∃ p cap, si.blk = some (p, cap) := by
        cases hb' : si.blk with
        | none => have := (hok.nil hb').1; rw [hok.n] at this; omega
        | some pc => exact ⟨pc.1, pc.2, rfl⟩
      obtain ⟨p, cap, hbl⟩ := hbl
      rw [tipVal_blk hbl]
      refine ⟨_, fun w' => run_indexAt_slice (P := P) (w := w') hu hi' ⟨p, 0, none⟩ si.n cap ik j hb.1 (by rw [hok.n]; exact hb.2), ?_⟩
      rw [add_none, Nat.zero_add]
      refine .sp _ _ _ _ _ si _ hs (by rw [hok.ver, hg2]; exact Nat.le_refl _) (fun _ => ⟨p, cap, hbl, hb.1, by rw [hok.n]; omega, ?_⟩) trivial
      rw [hok.wd, hr, hw]; rfl
    · rename_i r' ll _ _ l
      split at h
      case h_2 => simp at h
      rename_i e he
      split at h
      case h_2 => simp at h
      rename_i chk hchk
      simp only [ofSt, Option.some.injEq] at h; subst h
      have hb := litC_ok hchk hc
      rw [inRng_iff] at hb
      cases e
      refine ⟨rfl, rfl, rfl, ?_⟩
      cases hx with
      | lst0 _ _ _ _ _ _ _ _ h3 _ _ => rw [h3] at hb; simp at hb; omega
      | lst _ _ _ _ _ _ p o cap c g0 g1 g2 gm g3 g4 =>
        refine ⟨_, fun w' => run_indexAt_slice (P := P) (w := w') hu hi' ⟨p, o, none⟩ _ cap ik j hb.1 hb.2, ?_⟩
        rw [add_none]
        have hlt : j.toNat < l.length := by omega
        refine .fp _ _ p _ (fun k => c j.toNat k) (fun k d hd => ?_) (fun k d hd => g4 j.toNat k d hlt hd)
        have := g3 j.toNat k d hlt hd
        rw [hw] at this; exact this
    · simp at h
  · rename_i m elem ik j hu
    obtain ⟨rfl, hir⟩ := int_of hi
    split at h
    case h_2 => simp at h
    rename_i n hn
    split at h
    · rename_i hrg
      rw [inRng_iff] at hrg
      simp only [pureR, Option.some.injEq] at h; subst h
      refine ⟨rfl, rfl, rfl, ?_⟩
      cases hx with
      | loc _ _ _ q hq =>
        refine ⟨_, fun w' => run_indexAt_array (P := P) (w := w') hu hn _ ik j hrg.1 hrg.2, ?_⟩
        rw [add_none]; exact .loc _ _ _ _ hq
    · rename_i l hrg
      rw [inRng_iff] at hrg
      simp only [pureR, Option.some.injEq] at h; subst h
      refine ⟨rfl, rfl, rfl, ?_⟩
      cases hx with
      | fp _ _ q o c hf hr =>
        refine ⟨_, fun w' => run_indexAt_array (P := P) (w := w') hu hn _ ik j hrg.1 hrg.2, ?_⟩
        rw [add_none]
        refine .fp _ _ _ _ (fun k => c (j.toNat * n + k)) (fun k d hd => ?_) (fun k d hd => ?_)
        · rw [dropN_eq, nth_eq, List.getElem?_drop, ← nth_eq] at hd
          rw [Nat.add_assoc]; exact hf _ _ hd
        · rw [dropN_eq, nth_eq, List.getElem?_drop, ← nth_eq] at hd
          exact hr _ _ hd
    · simp at h
  · simp at h

theorem i64_nat {n : Nat} (h : n ≤ maxLen) : inR .i64 (n : Int) ∧ goInt n = .int .i64 (n : Int) := by
  have h' : n ≤ 9223372036854775807 := by simp only [maxLen] at h; omega
  refine ⟨?_, rfl⟩
  simp [inR, IntKind.min, IntKind.max, IntKind.signed, IntKind.bits]; omega

theorem run_len {w : World} {t elem ty : TypeId} (ht : P.underlying t = some (.slice elem)) (b : Option Addr) (n cap : Nat) : (Builtin.len_ #[t] ty #[.slice b n cap]).run P w = .ok (goInt n) w := by
  simp [Builtin.len_, run_underlying ht]
theorem run_len_array {w : World} {t elem ty : TypeId} {n : Nat} (ht : P.underlying t = some (.array n elem)) (v : Value) : (Builtin.len_ #[t] ty #[v]).run P w = .ok (goInt n) w := by
  simp [Builtin.len_, run_underlying ht]
end Go.S3
