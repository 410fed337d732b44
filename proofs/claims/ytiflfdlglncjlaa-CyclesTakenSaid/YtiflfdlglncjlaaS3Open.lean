/-
  A law's arguments, whatever their shape: from how they read to what the symbolic executor is handed; that they read so behind the call. From a contract of a law to the walk that its row asks for. Conditions: none (lemmas).
-/
import Derived.Test.YtiflfdlglncjlaaS3Env
import Derived.ProofKit
import Derived.OpenShut
import Derived.ShutString
import Derived.ChangeOld
import Derived.Below
import Derived.Carry
set_option linter.unusedSimpArgs false
set_option linter.unusedVariables false
namespace Go.S3
open Go.RowKit (Below)

/-- The context in which a law is handed its arguments: all memory that there is stays as it is. -/
def argC (w : World) : Ctx := { own := fun k => w.heap.size ≤ k, M := [], S := [], fz := fun b o => if b < w.heap.size then w.cell? ⟨b, o, none⟩ else none }
theorem argC_ok (w : World) : MemOk (argC w) ⟨[], []⟩ w where
  fresh := fun _ h => h
  fz := fun b o v h => by
    simp only [argC] at h
    split at h
    · exact h
    · simp at h
  ml := rfl
  box := fun b l p h => by simp [nth_nil] at h
  mown := fun b p h => by simp [argC, nth_nil] at h
  inj := fun b b' p h => by simp [argC, nth_nil] at h
  sl := rfl
  stg := fun i g s h => by simp [nth_nil] at h
  sown := fun i s p cap h => by simp [argC, nth_nil] at h
  sinj := fun i i' s s' p cap cap' h => by simp [argC, nth_nil] at h
theorem argC_bare (w : World) : (argC w).bare = argC w := rfl
theorem argC_fz {w : World} {p o : Nat} {v : Value} (h : w.cell? ⟨p, o, none⟩ = some v) : (argC w).fz p o = some v := by
  have : p < w.heap.size := by
    unfold World.cell? at h
    split at h
    · rename_i c _ _ hc
      exact (Array.getElem?_eq_some_iff.1 hc).1
    · simp at h
  simp only [argC, this, if_true]; exact h

/-- May a value of type t be opened? -/
def okF (f : TypeId → Bool) (cells : TypeId → Nat) : Nat → List Field → Nat → Bool
  | off, [], tot => Nat.beq off tot
  | off, fd :: l, tot => Nat.beq fd.offset off && f fd.type && okF f cells (off + cells fd.type) l tot
def okT (P : Program) : Nat → TypeId → Bool
  | 0, _ => false
  | d + 1, t => match P.underlying t with
    | some .bool => true
    | some (.int _) => true
    | some (.slice e) => okT P d e && Nat.blt 0 (P.cellsOf e)
    | some (.struct fs) => okF (okT P d) P.cellsOf 0 fs.toList (P.cellsOf t)
    | _ => false

section
variable {P : Program} {w : World} {H : Type} {enc : TypeId × Value → H}
def Opens (P : Program) (w : World) {H : Type} (enc : TypeId × Value → H) (t : TypeId) (r : R) : Prop :=
  ∀ (fuel : Nat) (cs : List Value) (x : DataW H × List MemPlace), DataW.trod enc P w 0 (fun _ => true) true fuel t cs = some x → ∃ y : r.den, RL (argC w) (r.enc y) cs

theorem opens_int {t : TypeId} {k : IntKind} (ht : P.underlying t = some (.int k)) : Opens P w enc t (.int k) := by
  intro fuel cs x h
  obtain ⟨n, e, _, hw⟩ := DataW.trod_int ht h
  subst e
  exact ⟨n, .int _ _ _ _ (by simpa [Lit.wf, inR] using hw), trivial⟩
theorem opens_bool {t : TypeId} (ht : P.underlying t = some .bool) : Opens P w enc t .bool := by
  intro fuel cs x h
  obtain ⟨b, e, _⟩ := DataW.trod_bool ht h
  subst e
  exact ⟨b, .bool _ _ _, trivial⟩
theorem cells?_get {base : Nat} {a : Addr} {n : Nat} {cs : List Value} (h : w.cells? base a n = some cs) : cs.length = n ∧ ∀ j, j < n → w.cell? (a.add j) = cs[j]? := by
  unfold World.cells? at h
  split at h
  · exact ⟨by simpa using mapM_some_length h, fun j hj => by simpa using mapM_some_get h j j (by simp [hj])⟩
  · simp at h
theorem opens_slice {t e : TypeId} {r : R} (ht : P.underlying t = some (.slice e)) (hc : 0 < P.cellsOf e) (hr : Opens P w enc e r) : Opens P w enc t (.sl r) := by
  intro fuel cs x h
  rcases DataW.trod_slice ht h with ⟨e1, _⟩ | ⟨a, l, cap, elems, rest, n, _, rfl, _, hb, hl, hm, hlen, hel, _, _⟩
  · subst e1
    exact ⟨[], .lst0 _ _ _ _ _ _ none 0 rfl (fun _ => rfl) (fun h => by simp at h), trivial⟩
  by_cases h0 : l = 0
  · subst h0
    exact ⟨[], .lst0 _ _ _ _ _ _ (some a) cap rfl (fun h => by simp at h) (fun _ => rfl), trivial⟩
  have key : ∀ i, i < l → ∃ (y : r.den) (C : List Value), C.length = P.cellsOf e ∧ (∀ j, j < P.cellsOf e → w.cell? ((a.add (i * P.cellsOf e)).add j) = C[j]?) ∧ RL (argC w) (r.enc y) C := by
    intro i hi
    have h1 := hel i hi
    rw [List.getElem?_eq_getElem (by omega)] at h1
    obtain ⟨C, h2, h3⟩ := Option.bind_eq_some_iff.1 h1
    obtain ⟨y, hy⟩ := hr n C _ h3
    obtain ⟨q1, q2⟩ := cells?_get h2
    exact ⟨y, C, q1, q2, hy⟩
  -- the address has no spot
  obtain ⟨p, o, spot⟩ := a
  have hsp : spot = none := by
    obtain ⟨y, C, q1, q2, _⟩ := key 0 (by omega)
    have := q2 0 hc
    rw [List.getElem?_eq_getElem (by omega)] at this
    simp only [Nat.zero_mul, Addr.add, if_true] at this
    unfold World.cell? at this
    split at this
    · split at this
      · simp at this
      · rename_i hs
        cases spot <;> simp_all
    · simp at this
  subst hsp
  have hadd : ∀ m : Nat, Addr.add ⟨p, o, none⟩ m = ⟨p, o + m, none⟩ := fun m => by
    unfold Addr.add; split
    · rename_i h; subst h; rfl
    · rfl
  have hadd2 : ∀ m k : Nat, Addr.add (Addr.add ⟨p, o, none⟩ m) k = ⟨p, o + m + k, none⟩ := fun m k => by
    rw [hadd]; unfold Addr.add; split
    · rename_i h; subst h; rfl
    · rfl
  have hwid : ∀ i (hi : i < l), r.wid = P.cellsOf e := fun i hi => by
    obtain ⟨y, C, q1, _, q3⟩ := key i hi
    rw [← R.enc_len r y, q3.length, q1]
  have hwd : r.wid = P.cellsOf e := hwid 0 (by omega)
  -- a list of the data
  have : ∀ m, m ≤ l → ∃ ys : List r.den, ys.length = m ∧ ∀ i (hi : i < m), ∃ C : List Value, C.length = P.cellsOf e ∧ (∀ j, j < P.cellsOf e → w.cell? ⟨p, o + i * P.cellsOf e + j, none⟩ = C[j]?) ∧ RL (argC w) (r.enc (ys.getD i r.dflt)) C := by
    intro m
    induction m with
    | zero => intro _; exact ⟨[], rfl, fun i hi => by omega⟩
    | succ m ih =>
      intro hm'
      obtain ⟨ys, e1, e2⟩ := ih (by omega)
      obtain ⟨y, C, q1, q2, q3⟩ := key m (by omega)
      refine ⟨ys ++ [y], by simp [e1], fun i hi => ?_⟩
      by_cases him : i < m
      · obtain ⟨C', p1, p2, p3⟩ := e2 i him
        refine ⟨C', p1, p2, ?_⟩
        have : (ys ++ [y]).getD i r.dflt = ys.getD i r.dflt := by simp [List.getD_eq_getElem?_getD, List.getElem?_append_left (by omega : i < ys.length)]
        rw [this]; exact p3
      · have him : i = m := by omega
        subst him
        refine ⟨C, q1, fun j hj => by have := q2 j hj; rwa [hadd2] at this, ?_⟩
        have : (ys ++ [y]).getD i r.dflt = y := by simp [List.getD_eq_getElem?_getD, ← e1]
        rw [this]; exact q3
  obtain ⟨ys, e1, e2⟩ := this l (Nat.le_refl _)
  refine ⟨ys, ?_, trivial⟩
  have hne : ys ≠ [] := fun h => by rw [h] at e1; simp at e1; omega
  have hsl := RA.lst (argC w) r false false false ys p o cap (fun i j => (w.cell? ⟨p, o + i * r.wid + j, none⟩).getD .nilFunc) hne (fun h => by simp at h) (by omega) (by omega)
    (fun i j a hi ha => ?_) (fun i j a hi ha => ?_)
  · rw [e1] at hsl; exact hsl
  all_goals
    obtain ⟨C, c1, c2, c3⟩ := e2 i (by omega)
    have hj : j < P.cellsOf e := by have := nth_lt ha; rw [elN, R.enc_len, hwd] at this; exact this
    obtain ⟨v, v1, v2⟩ := c3.nth j a ha
    have hcell : w.cell? ⟨p, o + i * r.wid + j, none⟩ = some v := by rw [hwd, c2 j hj, v1]
  · rw [hcell]; exact argC_fz hcell
  · show RA (argC w) a ((w.cell? ⟨p, o + i * r.wid + j, none⟩).getD .nilFunc)
    rw [hcell]; exact v2
theorem rowF_cons {f : TypeId → Option R} {fd fd2 : Field} {l : List Field} {r : R} (h : rowT.rowF f (fd :: fd2 :: l) = some r) : ∃ a b, f fd.type = some a ∧ rowT.rowF f (fd2 :: l) = some b ∧ r = .pair a b := by
  simp only [rowT.rowF] at h
  split at h
  · rename_i a b h1 h2
    simp only [Option.some.injEq] at h
    exact ⟨a, b, h1, h2, h.symm⟩
  · simp at h
theorem opens_fields {f : TypeId → Option R} {g : TypeId → Bool} {tot n : Nat} {cs : List Value} (hl : cs.length = tot) (hf : ∀ t r, f t = some r → g t = true → Opens P w enc t r) :
    ∀ (fs : List Field) (off : Nat) (r : R), rowT.rowF f fs = some r → okF g P.cellsOf off fs tot = true → (∀ fd ∈ fs, ∃ x, DataW.trod enc P w 0 (fun _ => true) true n fd.type ((cs.drop fd.offset).take (P.cellsOf fd.type)) = some x) →
      off ≤ tot ∧ ∃ y : r.den, RL (argC w) (r.enc y) (cs.drop off)
  | [], off, r, hr, hk, _ => by
    simp only [rowT.rowF, Option.some.injEq] at hr; subst hr
    simp only [okF, Nat.beq_eq] at hk
    refine ⟨by omega, (), ?_⟩
    rw [List.drop_of_length_le (by omega)]; trivial
  | [fd], off, r, hr, hk, h => by
    simp only [rowT.rowF] at hr
    simp only [okF, Bool.and_eq_true, Nat.beq_eq] at hk
    obtain ⟨⟨h1, h2⟩, h3⟩ := hk
    obtain ⟨x, hx⟩ := h fd (by simp)
    rw [h1, List.take_of_length_le (by simp; omega)] at hx
    obtain ⟨y, hy⟩ := hf fd.type r hr h2 n _ x hx
    exact ⟨by omega, y, hy⟩
  | fd :: fd2 :: l, off, r, hr, hk, h => by
    obtain ⟨a, b, h4, h5, rfl⟩ := rowF_cons hr
    rw [okF] at hk
    simp only [Bool.and_eq_true, Nat.beq_eq] at hk
    obtain ⟨⟨h1, h2⟩, h3⟩ := hk
    obtain ⟨x, hx⟩ := h fd (by simp)
    rw [h1] at hx
    obtain ⟨y, hy⟩ := hf fd.type a h4 h2 n _ x hx
    obtain ⟨hle, z, hz⟩ := opens_fields hl hf (fd2 :: l) (off + P.cellsOf fd.type) b h5 h3 (fun q hq => h q (List.mem_cons_of_mem _ hq))
    refine ⟨by omega, (y, z), ?_⟩
    have : cs.drop off = (cs.drop off).take (P.cellsOf fd.type) ++ cs.drop (off + P.cellsOf fd.type) := by
      rw [← List.drop_drop, List.take_append_drop]
    rw [this]
    exact hy.append hz
theorem opens_row : ∀ (d : Nat) (t : TypeId) (r : R), rowT P d t = some r → okT P d t = true → Opens P w enc t r
  | 0, _, _, h, _ => by simp [rowT] at h
  | d + 1, t, r, h, hk => by
    unfold rowT at h
    unfold okT at hk
    split at h
    · rename_i ht
      simp only [Option.some.injEq] at h; subst h
      exact opens_bool ht
    · rename_i k ht
      simp only [Option.some.injEq] at h; subst h
      exact opens_int ht
    · rename_i ht; rw [ht] at hk; simp at hk
    · rename_i e ht
      rw [ht] at hk
      simp only [Bool.and_eq_true, Nat.blt_eq] at hk
      split at h
      · rename_i q hq
        simp only [Option.some.injEq] at h; subst h
        exact opens_slice ht hk.2 (opens_row d e q hq hk.1)
      · simp at h
    · rename_i fs ht
      rw [ht] at hk
      intro fuel cs x hx
      obtain ⟨xs, n, _, _, hl, hlen, hf⟩ := DataW.trod_struct ht hx
      have := (opens_fields (P := P) (w := w) (enc := enc) (n := n) (cs := cs) hl (fun t r h1 h2 => opens_row d t r h1 h2) fs.toList 0 r h hk (fun f hf' => by
        obtain ⟨i, hi⟩ := List.getElem?_of_mem hf'
        have hfi := hf i f (by simpa using hi)
        have hlt : i < xs.length := by
          have := List.getElem?_eq_some_iff.1 hi
          obtain ⟨h1, _⟩ := this
          rw [hlen]; simpa using h1
        exact ⟨xs[i], by rw [hfi]; exact List.getElem?_eq_getElem hlt⟩)).2
      simpa using this
    · rename_i n e ht; rw [ht] at hk; simp at hk
    · simp at h

/-- An argument of type t: what it is to the executor. -/
theorem arg_sh {t : TypeId} {r : Reach} {b : Nat} {v : Value} {d : DataW H} {ps : List MemPlace} (hk : okT P 8 t = true) (hr : (rowT P 8 t).isSome = true) (hv : Value.okWide P w r b t v) (h : DataW.Trod enc P w 0 (fun _ => true) true t v d ps) :
    ∃ y : (shT P t).den, RW (argC w) ((shT P t).enc y) v := by
  obtain ⟨q, hq⟩ := Option.isSome_iff_exists.1 hr
  obtain ⟨fuel, hf⟩ := h
  obtain ⟨y, hy⟩ := opens_row 8 t q hq hk fuel _ _ hf
  unfold okT at hk
  unfold Value.okWide at hv
  have one : ∀ (hat : aggT P t = some false) (hv : v.cells.toList = [v]), ∃ y : (shT P t).den, RW (argC w) ((shT P t).enc y) v := by
    intro hat hvc
    have e : shT P t = .one q := by simp only [shT, hat, hq, Option.getD]
    rw [e]
    rw [hvc] at hy
    refine ⟨y, ?_⟩
    have hlen := hy.length
    simp only [Sh.enc]
    split
    · rename_i a ha
      have ha' : q.enc y = [a] := ha
      rw [ha'] at hy; exact hy.1
    · trivial
  cases hu : P.underlying t with
  | none => rw [hu] at hk; simp at hk
  | some u =>
    rw [hu] at hk hv
    cases u <;> simp at hk
    case bool =>
      obtain ⟨b, rfl⟩ := Go.WideShapes.okWide_bool (P := P) hu (r := r) (base := b) (by unfold Value.okWide; rw [hu]; exact hv)
      exact one (by simp [aggT, hu]) (by simp [Value.cells])
    case int k =>
      obtain ⟨n, rfl⟩ := Go.WideShapes.okWide_int (P := P) hu (r := r) (base := b) (by unfold Value.okWide; rw [hu]; exact hv)
      exact one (by simp [aggT, hu]) (by simp [Value.cells])
    case slice e =>
      obtain ⟨a, l, c, rfl⟩ := Go.WideShapes.okWide_slice (P := P) hu (r := r) (base := b) (by unfold Value.okWide; rw [hu]; exact hv)
      exact one (by simp [aggT, hu]) (by simp [Value.cells])
    case struct fs =>
      obtain ⟨cs, rfl, _, _⟩ := hv
      have e : shT P t = .agg q := by simp only [shT, aggT, hu, hq, Option.getD]
      rw [e]
      exact ⟨y, cs.toList, by simp, hy⟩
/-- Some arguments. -/
def okTs (P : Program) : List TypeId → Bool
  | [] => true
  | t :: l => okT P 8 t && (rowT P 8 t).isSome && okTs P l
theorem args_sh {r : Reach} {b : Nat} : ∀ {ts : List TypeId} {args : List Value} {ds : List (DataW H)} {ps : List MemPlace}, okTs P ts = true → (∀ (j : Nat) t v, ts[j]? = some t → args[j]? = some v → Value.okWide P w r b t v) →
    DataW.TrodAll enc P w 0 (fun _ => true) true ts args ds ps → ∃ y : HL (ts.map (shT P)), RWs (argC w) (encWs (ts.map (shT P)) y) args
  | [], args, ds, ps, _, _, h => by
    cases args with
    | nil => exact ⟨(), trivial⟩
    | cons _ _ => simp [DataW.TrodAll] at h
  | [t], args, ds, ps, hk, hv, h => by
    simp only [okTs, Bool.and_eq_true] at hk
    match args, ds, h with
    | [v], [d], h =>
      obtain ⟨p, q, h1, _, _⟩ := h
      obtain ⟨y, hy⟩ := arg_sh hk.1.1 hk.1.2 (hv 0 t v rfl rfl) h1
      exact ⟨y, hy, trivial⟩
    | _ :: _ :: _, _ :: _, h => obtain ⟨_, _, _, h, _⟩ := h; simp [DataW.TrodAll] at h
    | [_], _ :: _ :: _, h => obtain ⟨_, _, _, h, _⟩ := h; simp [DataW.TrodAll] at h
    | [], _, h => simp [DataW.TrodAll] at h
    | _ :: _, [], h => simp [DataW.TrodAll] at h
  | t :: t2 :: ts, args, ds, ps, hk, hv, h => by
    rw [okTs] at hk
    simp only [Bool.and_eq_true] at hk
    match args, ds, h with
    | v :: vs, d :: ds, h =>
      obtain ⟨p, q, h1, h2, _⟩ := h
      obtain ⟨y, hy⟩ := arg_sh hk.1.1 hk.1.2 (hv 0 t v rfl rfl) h1
      obtain ⟨z, hz⟩ := args_sh (ts := t2 :: ts) hk.2 (fun j t v h1 h2 => hv (j + 1) t v (by simpa using h1) (by simpa using h2)) h2
      exact ⟨(y, z), hy, hz⟩
    | [], _, h => simp [DataW.TrodAll] at h
    | _ :: _, [], h => simp [DataW.TrodAll] at h
end

theorem dec_of : ∀ (r : R) (y : r.den) (t : List A), r.dec (r.enc y ++ t) = some (y, t)
  | .int k, n, t => by
    simp only [R.enc, R.dec, List.singleton_append, decI]
    have : sameK k k = true := by cases k <;> rfl
    rw [this]
  | .bool, _, _ => rfl
  | .str, _, _ => rfl
  | .sl r, l, t => by
    simp only [R.enc, R.dec, List.singleton_append, decL]
    have : ∃ e, R.same r r = some e := same_refl r
    obtain ⟨e, he⟩ := this
    rw [he]
    cases e; rfl
  | .pair a b, y, t => by
    simp only [R.enc, R.dec, List.append_assoc]
    rw [dec_of a y.1]
    simp only []
    rw [dec_of b y.2]
  | .unit, _, _ => rfl
where
  same_refl : ∀ r : R, ∃ e, R.same r r = some e
    | .int k => by
      have : sameK k k = true := by cases k <;> rfl
      unfold R.same
      split
      · exact ⟨_, rfl⟩
      · rename_i h; rw [this] at h; simp at h
    | .bool => ⟨_, rfl⟩
    | .str => ⟨_, rfl⟩
    | .sl r => by
      obtain ⟨e, he⟩ := same_refl r
      simp only [R.same, he]
      cases e
      exact ⟨_, rfl⟩
    | .pair a b => by
      obtain ⟨e, he⟩ := same_refl a
      obtain ⟨f, hf⟩ := same_refl b
      simp only [R.same, he, hf]
      cases e; cases f
      exact ⟨_, rfl⟩
    | .unit => ⟨_, rfl⟩
theorem R.decW_enc (r : R) (y : r.den) : r.decW (r.enc y) = some y := by
  have := dec_of r y []
  rw [List.append_nil] at this
  unfold R.decW
  rw [this]
def okSh : Sh → Bool
  | .one r => Nat.beq r.wid 1
  | .agg _ => true
theorem Sh.dec_enc {s : Sh} (h : okSh s = true) (y : s.den) : s.dec (s.enc y) = some y := by
  cases s with
  | one r =>
    simp only [okSh, Nat.beq_eq] at h
    have hl := R.enc_len r y
    rw [h] at hl
    obtain ⟨a, ha⟩ := List.length_eq_one_iff.1 hl
    have := R.decW_enc r y
    simp only [Sh.enc]
    split
    · rename_i a' ha'
      have ha' : r.enc y = [a'] := ha'
      rw [ha'] at this; exact this
    · rename_i hn; exact absurd ha (hn a)
  | agg r => exact R.decW_enc r y
theorem decWs_enc : ∀ {ts : List Sh}, (ts.all okSh) = true → ∀ y : HL ts, decWs ts (encWs ts y) = some y
  | [], _, _ => rfl
  | [s], h, y => by
    simp only [List.all_cons, Bool.and_eq_true] at h
    exact Sh.dec_enc h.1 y
  | s :: t :: l, h, y => by
    rw [List.all_cons, Bool.and_eq_true] at h
    simp only [encWs, decWs]
    rw [Sh.dec_enc h.1 y.1, decWs_enc h.2 y.2]
theorem unW_mapW : ∀ l : List W, unW (mapW l) = some l
  | [] => rfl
  | w :: l => by simp [mapW, unW, unW_mapW l]
theorem decVs_enc {ts : List Sh} (h : (ts.all okSh) = true) (y : HL ts) : decVs ts (encVs ts y) = some y := by
  unfold decVs encVs
  rw [unW_mapW]
  exact decWs_enc h y

theorem law_run {P : Program} {f : FuncId} {ts : List TypeId} {ss : List Sh} {pre : HL ss → Option Bool} {F : HL ss → Bool} (h : EntryOk P f (pureE ss (.one (.one .bool)) pre F)) (hs : ss = ts.map (shT P)) (hk : okTs P ts = true) (hsh : (ss.all okSh) = true)
    (hall : ∀ a, okHL ss a → pre a ≠ some false ∧ F a = true)
    {H : Type} {enc : TypeId × Value → H} {w : World} {r : Reach} {b : Nat} {args : Array Value} {ds : List (DataW H)} {ps : List MemPlace} (hv : ∀ (j : Nat) t v, ts[j]? = some t → args[j]? = some v → Value.okWide P w r b t v)
    (ha : DataW.TrodAll enc P w 0 (fun _ => true) true ts args.toList ds ps) : Calls P f args w fun e w' => e = .returned (.bool true) ∧ Below w.heap.size w w' := by
  subst hs
  obtain ⟨a, hr⟩ := args_sh hk (fun j t v h1 h2 => hv j t v h1 (by simpa using h2)) ha
  have hd := decVs_enc hsh a
  have hvs := RVs_mapW hr
  obtain ⟨_, hok⟩ := decVs_ok hd hvs
  obtain ⟨h1, h2⟩ := hall a hok
  have h3 := h.2 (encVs _ a) (pre a) ((Rs.one (Sh.one R.bool)).enc (F a)) (by simp only [hd]) h1 _ _ w args.toList (argC_ok w) hvs
  refine Calls.mono h3 fun e w' hres => ?_
  obtain ⟨val, x', rfl, hv, _, _, hs⟩ := hres
  rw [h2] at hv
  have hv : RA x' (.bool false true) val := hv
  cases hv
  exact ⟨rfl, hs.2.1, hs.2.2.1, hs.2.2.2, hs.1.1, hs.1.2⟩

theorem trodAll_len {P : Program} {H : Type} {enc : TypeId × Value → H} {W : World} {base : Nat} {sp : Nat → Bool} {held : Bool} : ∀ {ts : List TypeId} {args : List Value} {ds : List (DataW H)} {ps : List MemPlace},
    DataW.TrodAll enc P W base sp held ts args ds ps → ds.length = ts.length
  | [], args, ds, ps, h => by
    cases args <;> cases ds <;> simp_all [DataW.TrodAll]
  | t :: ts, args, ds, ps, h => by
    match args, ds, h with
    | v :: vs, d :: ds, h =>
      obtain ⟨p, q, h1, h2, rfl⟩ := h
      simp [trodAll_len h2]
    | [], _, h => simp [DataW.TrodAll] at h
    | _ :: _, [], h => simp [DataW.TrodAll] at h

/-- The arguments read as before. -/
theorem args_stay {P : Program} (hl : laidOutB P = true) {H : Type} {enc : TypeId × Value → H} {W W' : World} (hb : Below W.heap.size W W') : ∀ {ts : List TypeId} {args : List Value} {ds : List (DataW H)} {ps : List MemPlace},
    (ts.all fun t => P.readableRec t && decide (t < P.types.size)) = true → DataW.TrodAll enc P W 0 (fun _ => true) true ts args ds ps → DataW.TrodAll enc P W' 0 (fun b => decide (b < W.heap.size)) true ts args ds ps
  | [], args, ds, ps, _, h => by
    cases args <;> cases ds <;> simp_all [DataW.TrodAll]
  | t :: ts, args, ds, ps, ht, h => by
    have hlt := DataW.TrodAll.lt h
    match args, ds, h with
    | v :: vs, d :: ds, h =>
      obtain ⟨p, q, h1, h2, rfl⟩ := h
      simp only [List.all_cons, Bool.and_eq_true, decide_eq_true_eq] at ht
      exact ⟨p, q, Go.RowKit.Below.trod hl ht.1.1 ht.1.2 h1 hb (fun x hx => hlt x (by simp [hx])), args_stay hl hb ht.2 h2, rfl⟩
    | [], _, h => simp [DataW.TrodAll] at h
    | _ :: _, [], h => simp [DataW.TrodAll] at h
end Go.S3
