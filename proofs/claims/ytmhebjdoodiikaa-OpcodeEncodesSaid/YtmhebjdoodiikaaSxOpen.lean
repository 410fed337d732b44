/-
  A law's arguments, whatever their shape: from how they read to what the symbolic executor is handed; and that they read so behind the call. Conditions: none (lemmas).
-/
import Derived.Test.YtmhebjdoodiikaaSxLaw
import Derived.Carry
namespace Go.Sx
open Go.RowKit (Below)

/-- The context in which a law is handed its arguments: all memory that there is stays as it is. -/
def argC (w : World) : Ctx := { own := fun k => w.heap.size ≤ k, M := [], S := [], fz := fun b o => if b < w.heap.size then w.cell? ⟨b, o, none⟩ else none }
theorem argC_ok (w : World) : MemOk (argC w) ⟨[], []⟩ w where
  fresh := fun _ h => h
  fz := fun b o v h => by
    simp only [argC] at h
    split at h
    · exact h
    · simp at h
  ml := rfl
  box := fun b l p h => by cases b <;> simp [nth] at h
  mown := fun b p h => by cases b <;> simp [argC, nth] at h
  inj := fun b b' p h => by cases b <;> simp [argC, nth] at h
  sl := rfl
  stg := fun i g s h => by cases i <;> simp [nth] at h
  sown := fun i s p cap h => by cases i <;> simp [argC, nth] at h
  sinj := fun i i' s s' p cap cap' h => by cases i <;> simp [argC, nth] at h

/-- Cells that read as data of type t: what they are to the executor. -/
def Opens (P : Program) (t : TypeId) {α : Type} (c : PC α) : Prop :=
  ∀ (H : Type) (enc : TypeId × Value → H) (w : World) (fuel : Nat) (cs : List Value) (x : DataW H × List MemPlace), DataW.trod enc P w 0 (fun _ => true) true fuel t cs = some x → ∃ a, RL (argC w) (c.enc a) cs
theorem Opens.int {P : Program} {t : TypeId} {k : IntKind} (ht : P.underlying t = some (.int k)) : Opens P t (PC.int k) := by
  intro H enc w fuel cs x h
  obtain ⟨n, e, _, hw⟩ := DataW.trod_int ht h
  subst e
  exact ⟨n, .int _ _ _ _ (inR_of_wf hw), trivial⟩
theorem Opens.bool {P : Program} {t : TypeId} (ht : P.underlying t = some .bool) : Opens P t PC.bool := by
  intro H enc w fuel cs x h
  obtain ⟨b, e, _⟩ := DataW.trod_bool ht h
  subst e
  exact ⟨b, .bool _ _ _, trivial⟩
theorem Opens.iso {P : Program} {t : TypeId} {α β : Type} {p : PC α} {f : α → β} {g : β → α} {h : ∀ a, g (f a) = a} (o : Opens P t p) : Opens P t (PC.iso p f g h) := by
  intro H enc w fuel cs x hx
  obtain ⟨a, ha⟩ := o H enc w fuel cs x hx
  exact ⟨f a, by show RL _ (p.enc (g (f a))) cs; rw [h a]; exact ha⟩
/-- The fields from the offset off on. -/
def OpensF (P : Program) (fs : List Field) (off : Nat) {α : Type} (c : PC α) : Prop :=
  ∀ (H : Type) (enc : TypeId × Value → H) (w : World) (fuel : Nat) (cs : List Value), cs.length = off + ((fs.map fun f => P.cellsOf f.type).foldr (· + ·) 0) →
    (∀ f ∈ fs, ∃ x, DataW.trod enc P w 0 (fun _ => true) true fuel f.type ((cs.drop f.offset).take (P.cellsOf f.type)) = some x) → ∃ a, RL (argC w) (c.enc a) (cs.drop off)
theorem OpensF.one {P : Program} {f : Field} {off : Nat} {α : Type} {c : PC α} (ho : f.offset = off) (o : Opens P f.type c) : OpensF P [f] off c := by
  intro H enc w fuel cs hl h
  obtain ⟨x, hx⟩ := h f (by simp)
  rw [ho, List.take_of_length_le (by simp at hl ⊢; omega)] at hx
  exact o H enc w fuel _ x hx
theorem OpensF.cons {P : Program} {f : Field} {fs : List Field} {off : Nat} {α β : Type} {c : PC α} {d : PC β} (ho : f.offset = off) (o : Opens P f.type c) (of : OpensF P fs (off + P.cellsOf f.type) d) : OpensF P (f :: fs) off (PC.pair c d) := by
  intro H enc w fuel cs hl h
  obtain ⟨x, hx⟩ := h f (by simp)
  rw [ho] at hx
  obtain ⟨a, ha⟩ := o H enc w fuel _ x hx
  obtain ⟨b, hb⟩ := of H enc w fuel cs (by simp at hl ⊢; omega) (fun g hg => h g (by simp [hg]))
  refine ⟨(a, b), ?_⟩
  have : cs.drop off = (cs.drop off).take (P.cellsOf f.type) ++ cs.drop (off + P.cellsOf f.type) := by
    rw [← List.drop_drop, List.take_append_drop]
  rw [this]
  exact ha.append hb
theorem Opens.struct {P : Program} {t : TypeId} {fs : Array Field} {α : Type} {c : PC α} (ht : P.underlying t = some (.struct fs)) (hc : P.cellsOf t = ((fs.toList.map fun f => P.cellsOf f.type).foldr (· + ·) 0)) (o : OpensF P fs.toList 0 c) : Opens P t c := by
  intro H enc w fuel cs x h
  obtain ⟨xs, n, _, _, hl, hlen, hf⟩ := DataW.trod_struct ht h
  have := o H enc w n cs (by rw [hl, hc]; omega) (fun f hf' => by
    obtain ⟨i, hi⟩ := List.getElem?_of_mem hf'
    have hfi := hf i f (by simpa using hi)
    have hlt : i < xs.length := by
      have := List.getElem?_eq_some_iff.1 hi
      obtain ⟨h1, _⟩ := this
      rw [hlen]; simpa using h1
    exact ⟨xs[i], by rw [hfi]; exact List.getElem?_eq_getElem hlt⟩)
  simpa using this

/-- An argument of type t: what it is to the executor. -/
def OV (P : Program) (t : TypeId) {α : Type} (c : WC α) : Prop :=
  ∀ (H : Type) (enc : TypeId × Value → H) (w : World) (r : Reach) (b : Nat) (v : Value) (d : DataW H) (ps : List MemPlace), Value.okWide P w r b t v → DataW.Trod enc P w 0 (fun _ => true) true t v d ps → ∃ a, RW (argC w) (c.enc a) v
theorem OV.int {P : Program} {t : TypeId} {k : IntKind} (ht : P.underlying t = some (.int k)) : OV P t (WC.int k) := by
  intro H enc w r b v d ps hv h
  obtain ⟨n, rfl, _, _, hw⟩ := Go.ChangeShapes.open_int ht hv h
  exact ⟨n, .int _ _ _ _ (inR_of_wf hw)⟩
theorem OV.bool {P : Program} {t : TypeId} (ht : P.underlying t = some .bool) : OV P t WC.bool := by
  intro H enc w r b v d ps hv h
  obtain ⟨n, rfl, _, _⟩ := Go.RowKit.open_bool ht hv h
  exact ⟨n, .bool _ _ _⟩
theorem OV.agg {P : Program} {t : TypeId} {fs : Array Field} {α : Type} {c : PC α} (ht : P.underlying t = some (.struct fs)) (o : Opens P t c) : OV P t (WC.agg c) := by
  intro H enc w r b v d ps hv h
  unfold Value.okWide at hv
  rw [ht] at hv
  obtain ⟨cs, rfl, _, _⟩ := hv
  obtain ⟨fuel, hf⟩ := h
  obtain ⟨a, ha⟩ := o H enc w fuel _ _ hf
  exact ⟨a, _, rfl, ha⟩
def OA (P : Program) (ts : List TypeId) {α : Type} (c : AC α) : Prop :=
  ∀ (H : Type) (enc : TypeId × Value → H) (w : World) (r : Reach) (b : Nat) (args : List Value) (ds : List (DataW H)) (ps : List MemPlace), (∀ (j : Nat) t v, ts[j]? = some t → args[j]? = some v → Value.okWide P w r b t v) →
    DataW.TrodAll enc P w 0 (fun _ => true) true ts args ds ps → ∃ a, RVs (argC w) (c.enc a) args
theorem OA.nil {P : Program} : OA P [] AC.nil := by
  intro H enc w r b args ds ps _ h
  cases args with
  | nil => exact ⟨(), trivial⟩
  | cons _ _ => simp [DataW.TrodAll] at h
theorem OA.one {P : Program} {t : TypeId} {α : Type} {c : WC α} (o : OV P t c) : OA P [t] (AC.one c) := by
  intro H enc w r b args ds ps hv h
  match args, ds, h with
  | [v], [d], h =>
    obtain ⟨p, q, h1, _, _⟩ := h
    obtain ⟨a, ha⟩ := o H enc w r b v d p (hv 0 t v rfl rfl) h1
    exact ⟨a, ha, trivial⟩
  | _ :: _ :: _, _ :: _, h => obtain ⟨_, _, _, h, _⟩ := h; simp [DataW.TrodAll] at h
  | [_], _ :: _ :: _, h => obtain ⟨_, _, _, h, _⟩ := h; simp [DataW.TrodAll] at h
  | [], _, h => simp [DataW.TrodAll] at h
  | _ :: _, [], h => simp [DataW.TrodAll] at h
theorem OA.cons {P : Program} {t : TypeId} {ts : List TypeId} {α β : Type} {c : WC α} {e : AC β} (o : OV P t c) (os : OA P ts e) : OA P (t :: ts) (AC.cons c e) := by
  intro H enc w r b args ds ps hv h
  match args, ds, h with
  | v :: vs, d :: ds, h =>
    obtain ⟨p, q, h1, h2, _⟩ := h
    obtain ⟨a, ha⟩ := o H enc w r b v d p (hv 0 t v rfl rfl) h1
    obtain ⟨a', ha'⟩ := os H enc w r b vs ds q (fun j t v h1 h2 => hv (j + 1) t v (by simpa using h1) (by simpa using h2)) h2
    exact ⟨(a, a'), ha, ha'⟩
  | [], _, h => simp [DataW.TrodAll] at h
  | _ :: _, [], h => simp [DataW.TrodAll] at h

theorem law_run {P : Program} {f : FuncId} {α : Type} {d : AC α} (h : EntryOk P f (pureE d (RC.one WC.bool) (fun _ => none) (fun _ => true))) (hd : ∀ a, d.dec (d.enc a) = some a) {ts : List TypeId} (o : OA P ts d)
    {H : Type} {enc : TypeId × Value → H} {w : World} {r : Reach} {b : Nat} {args : Array Value} {ds : List (DataW H)} {ps : List MemPlace} (hv : ∀ (j : Nat) t v, ts[j]? = some t → args[j]? = some v → Value.okWide P w r b t v)
    (ha : DataW.TrodAll enc P w 0 (fun _ => true) true ts args.toList ds ps) : Calls P f args w fun e w' => e = .returned (.bool true) ∧ Below w.heap.size w w' := by
  obtain ⟨a, hr⟩ := o H enc w r b args.toList ds ps (fun j t v h1 h2 => hv j t v h1 (by simpa using h2)) ha
  have h2 := h.2 (d.enc a) none (.w (WC.bool.enc true)) (by simp only [hd]; rfl) (by simp) _ _ w args.toList (argC_ok w) hr
  refine h2.mono fun e w' hres => ?_
  obtain ⟨val, rfl, hv, hs⟩ := hres
  have := bool_of hv
  subst this
  exact ⟨rfl, hs.2.1, hs.2.2.1, hs.2.2.2, hs.1.1, hs.1.2⟩

theorem trodAll_len {P : Program} {H : Type} {enc : TypeId × Value → H} {W : World} {base : Nat} {sp : Nat → Bool} {held : Bool} : ∀ {ts : List TypeId} {args : List Value} {ds : List (DataW H)} {ps : List MemPlace},
    DataW.TrodAll enc P W base sp held ts args ds ps → ds.length = ts.length
  | [], args, ds, ps, h => by
    cases args <;> cases ds <;> simp_all [DataW.TrodAll]
  | t :: ts, args, ds, ps, h => by
    match args, ds, h with
    | v :: vs, d :: ds, h =>
      obtain ⟨p, q, h1, h2, rfl⟩ := h
      simp [trodAll_len h2]
    | [], _, h => simp [DataW.TrodAll] at h
    | _ :: _, [], h => simp [DataW.TrodAll] at h

/-- The arguments read as before. -/
theorem args_stay {P : Program} (hl : laidOutB P = true) {H : Type} {enc : TypeId × Value → H} {W W' : World} (hb : Below W.heap.size W W') : ∀ {ts : List TypeId} {args : List Value} {ds : List (DataW H)} {ps : List MemPlace},
    (ts.all fun t => P.readableRec t && decide (t < P.types.size)) = true → DataW.TrodAll enc P W 0 (fun _ => true) true ts args ds ps → DataW.TrodAll enc P W' 0 (fun b => decide (b < W.heap.size)) true ts args ds ps
  | [], args, ds, ps, _, h => by
    cases args <;> cases ds <;> simp_all [DataW.TrodAll]
  | t :: ts, args, ds, ps, ht, h => by
    have hlt := DataW.TrodAll.lt h
    match args, ds, h with
    | v :: vs, d :: ds, h =>
      obtain ⟨p, q, h1, h2, rfl⟩ := h
      simp only [List.all_cons, Bool.and_eq_true, decide_eq_true_eq] at ht
      exact ⟨p, q, Go.RowKit.Below.trod hl ht.1.1 ht.1.2 h1 hb (fun x hx => hlt x (by simp [hx])), args_stay hl hb ht.2 h2, rfl⟩
    | [], _, h => simp [DataW.TrodAll] at h
    | _ :: _, [], h => simp [DataW.TrodAll] at h
end Go.Sx
