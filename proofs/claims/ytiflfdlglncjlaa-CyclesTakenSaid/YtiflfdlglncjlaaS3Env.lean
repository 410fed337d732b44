/-
  Environments; contracts from trees that are told. Conditions: none (definitions and lemmas).
-/
import Derived.Test.YtiflfdlglncjlaaS3Loop
set_option linter.unusedSimpArgs false
set_option linter.unusedVariables false
namespace Go.S3

def look (l : List (FuncId × Entry)) (f : FuncId) : Option Entry :=
  match l with
  | [] => none
  | (g, e) :: r => match Nat.beq g f with
    | true => some e
    | false => look r f
def AllOk (P : Program) : List (FuncId × Entry) → Prop
  | [] => True
  | (g, e) :: r => EntryOk P g e ∧ AllOk P r
theorem look_ok {P : Program} : ∀ {l : List (FuncId × Entry)}, AllOk P l → ∀ f e, look l f = some e → EntryOk P f e
  | [], _, _, _, h => by simp [look] at h
  | (g, e') :: r, hl, f, e, h => by
    simp only [look] at h
    split at h
    · rename_i hg
      simp only [Nat.beq_eq] at hg
      simp only [Option.some.injEq] at h
      subst h; subst hg; exact hl.1
    · exact look_ok hl.2 f e h
def lookL (l : List (Nat × Ora)) (i : Nat) : Option Ora :=
  match l with
  | [] => none
  | (j, f) :: r => match Nat.beq j i with
    | true => some f
    | false => lookL r i
def envX (P : Program) (l : List (FuncId × Entry)) (ol : List (Nat × Ora)) (named fuel : Nat) : Env := ⟨P, look l, lookL ol, named, fuel⟩
theorem envX_ok {P : Program} {l : List (FuncId × Entry)} (h : AllOk P l) (ol : List (Nat × Ora)) (n k : Nat) : EnvOk (envX P l ol n k) := look_ok h

/-! ### the loops of a piece of code -/
def loopsIn : Code → List (Nat × Code)
  | .seq a b => loopsIn a ++ loopsIn b
  | .cond _ a b => loopsIn a ++ loopsIn b
  | .block id c => match c with
    | .loop b => (id, b) :: loopsIn b
    | c => loopsIn c
  | _ => []
def findL : List (Nat × Code) → Nat → Code
  | [], _ => .skip
  | (j, b) :: r, id => match Nat.beq j id with
    | true => b
    | false => findL r id
/-- The body of the loop in block number id. -/
def bodyIn (c : Option Code) (id : Nat) : Code :=
  match c with
  | none => .skip
  | some c => findL (loopsIn c) id
def nodupL : List (Nat × Code) → Bool
  | [] => true
  | (j, _) :: r => !has j r && nodupL r
where has (j : Nat) : List (Nat × Code) → Bool
  | [] => false
  | (i, _) :: r => Nat.beq i j || has j r
theorem has_mem {j : Nat} {b : Code} : ∀ {l : List (Nat × Code)}, (j, b) ∈ l → nodupL.has j l = true
  | [], h => by simp at h
  | (i, c) :: r, h => by
    simp only [nodupL.has, Bool.or_eq_true, Nat.beq_eq]
    rcases List.mem_cons.1 h with h | h
    · simp only [Prod.mk.injEq] at h; exact .inl h.1.symm
    · exact .inr (has_mem h)
theorem findL_mem {j : Nat} {b : Code} : ∀ {l : List (Nat × Code)}, nodupL l = true → (j, b) ∈ l → findL l j = b
  | [], _, h => by simp at h
  | (i, c) :: r, hn, h => by
    simp only [nodupL, Bool.and_eq_true, Bool.not_eq_true'] at hn
    simp only [findL]
    rcases List.mem_cons.1 h with h | h
    · simp only [Prod.mk.injEq] at h
      obtain ⟨rfl, rfl⟩ := h
      simp
    · have : Nat.beq i j = false := by
        rw [Bool.eq_false_iff]; intro e
        rw [Nat.beq_eq] at e; subst e
        rw [has_mem h] at hn; simp at hn
      rw [this]
      exact findL_mem hn.2 h
theorem loopsOk_of {E : Env} : ∀ c : Code, (∀ p ∈ loopsIn c, ∀ f, E.loops p.1 = some f → OraOk E (.block p.1 (.loop p.2)) f) → LoopsOk E c
  | .seq a b, h => ⟨loopsOk_of a fun p hp => h p (by simp [loopsIn, hp]), loopsOk_of b fun p hp => h p (by simp [loopsIn, hp])⟩
  | .cond _ a b, h => ⟨loopsOk_of a fun p hp => h p (by simp [loopsIn, hp]), loopsOk_of b fun p hp => h p (by simp [loopsIn, hp])⟩
  | .block id c, h => by
    unfold LoopsOk
    split
    · rename_i b
      split
      · rename_i f hf
        exact h (id, b) (by simp [loopsIn]) f hf
      · exact loopsOk_of b fun p hp => h p (by simp [loopsIn, hp])
    · rename_i hc
      refine loopsOk_of c fun p hp => h p ?_
      cases c <;> first | exact hp | exact absurd rfl (hc _)
  | .skip, _ | .region .., _ | .loop _, _ | .rangeFunc .., _ | .exit _, _ | .scope _, _ | .label _, _ | .goto _, _ | .ret, _ | .refuse _, _ => trivial
/-- Every loop that has an oracle does what that says. -/
def AllL (E : Env) (c : Option Code) : List (Nat × Ora) → Prop
  | [] => True
  | (id, f) :: r => OraOk E (.block id (.loop (bodyIn c id))) f ∧ AllL E c r
theorem allL_look {E : Env} {c : Option Code} : ∀ {ol : List (Nat × Ora)}, AllL E c ol → ∀ id f, lookL ol id = some f → OraOk E (.block id (.loop (bodyIn c id))) f
  | [], _, _, _, h => by simp [lookL] at h
  | (j, g) :: r, hl, id, f, h => by
    simp only [lookL] at h
    split at h
    · rename_i hj
      simp only [Nat.beq_eq] at hj
      simp only [Option.some.injEq] at h
      subst h; subst hj; exact hl.1
    · exact allL_look hl.2 id f h
theorem loopsOk_all {P : Program} {l : List (FuncId × Entry)} {ol : List (Nat × Ora)} {n k : Nat} {c : Code} (hn : nodupL (loopsIn c) = true) (h : AllL (envX P l ol n k) (some c) ol) : LoopsOk (envX P l ol n k) c :=
  loopsOk_of c fun p hp f hf => by
    have := allL_look h p.1 f hf
    have e : bodyIn (some c) p.1 = p.2 := findL_mem hn hp
    rwa [e] at this
/-- The loops of b have no oracle. -/
def bareL (ol : List (Nat × Ora)) : List (Nat × Code) → Bool
  | [] => true
  | (i, _) :: r => (match lookL ol i with | some _ => false | none => true) && bareL ol r
theorem loopsOk_bare {P : Program} {l : List (FuncId × Entry)} {ol : List (Nat × Ora)} {n k : Nat} {b : Code} (h : bareL ol (loopsIn b) = true) : LoopsOk (envX P l ol n k) b :=
  loopsOk_of b fun p hp f hf => by
    exfalso
    have : ∀ r : List (Nat × Code), bareL ol r = true → p ∈ r → lookL ol p.1 = none := by
      intro r
      induction r with
      | nil => intro _ h; simp at h
      | cons q r ih =>
        intro h hp
        obtain ⟨i, c⟩ := q
        simp only [bareL, Bool.and_eq_true] at h
        rcases List.mem_cons.1 hp with rfl | hp
        · cases e : lookL ol i with
          | none => rfl
          | some _ => simp only [e] at h; simp at h
        · exact ih h.2 hp
    have h2 := this _ h hp
    have hf : lookL ol p.1 = some f := hf
    rw [h2] at hf; simp at hf

/-! ### contracts from trees -/
/-- The shape of a value of type t. -/
def shT (P : Program) (t : TypeId) : Sh := match aggT P t with
  | some true => .agg ((rowT P 8 t).getD .unit)
  | _ => .one ((rowT P 8 t).getD .unit)
def rsT (P : Program) : List TypeId → Rs
  | [t] => .one (shT P t)
  | l => .tup (l.map (shT P))
/-- The row that a pointer of type t leads to. -/
def rowP (P : Program) (t : TypeId) : R := match P.underlying t with
  | some (.pointer e) => (rowT P 8 e).getD .unit
  | _ => .unit
def Sh.dflt (s : Sh) : s.den := s.code.dflt
def dfltHL : (l : List Sh) → HL l
  | [] => ()
  | [s] => s.dflt
  | s :: t :: l => (s.dflt, dfltHL (t :: l))
def Rs.dflt : (r : Rs) → r.den
  | .one s => s.dflt
  | .tup l => dfltHL l
def okB {α : Type} : Option α → Bool
  | some _ => true
  | none => false
def okO {α : Type} (o : Option α) : Option Bool := some (okB o)
def getO {α : Type} (d : α) : Option α → α
  | some x => x
  | none => d
theorem okO_get {α : Type} {o : Option α} {d : α} (h : okO o ≠ some false) : o = some (getO d o) := by cases o <;> simp [okO, okB, getO] at h ⊢

section
variable {P : Program} {l : List (FuncId × Entry)} {ol : List (Nat × Ora)} {n k : Nat} {f : FuncId} {fn : Func}
theorem loopsFn (hb : fn.body.isSome = true) (hn : nodupL (loopsIn (fn.body.getD .skip)) = true) (hol : AllL (envX P l ol n k) fn.body ol) : ∃ c, fn.body = some c ∧ LoopsOk (envX P l ol n k) c := by
  obtain ⟨c, hc⟩ := Option.isSome_iff_exists.1 hb
  rw [hc] at hn hol
  exact ⟨c, hc, loopsOk_all hn hol⟩
/-- A contract that the tree tells; some ways end in a panic, or beyond what the executor sees. -/
theorem pure_part (hl : AllOk P l) (hf : P.funcs[f]? = some fn) (hb : fn.body.isSome = true) (hn : nodupL (loopsIn (fn.body.getD .skip)) = true) (hcall : Callable P f) (hol : AllL (envX P l ol n k) fn.body ol)
    {ts : List Sh} {rs : Rs} {t : HL ts → RT (Option rs.den)} (h : ∀ a, evVal (envX P l ol n k) fn ts rs a = t a) : EntryOk P f (pureE ts rs (fun a => okO (t a).val) (fun a => getO rs.dflt (t a).val)) := by
  obtain ⟨c, hc, hlo⟩ := loopsFn hb hn hol
  exact pureE_part (E := envX P l ol n k) (envX_ok hl ol n k) hf hc hlo hcall h fun a _ hp => okO_get hp
/-- The same where there are none. -/
theorem pure_tot (hl : AllOk P l) (hf : P.funcs[f]? = some fn) (hb : fn.body.isSome = true) (hn : nodupL (loopsIn (fn.body.getD .skip)) = true) (hcall : Callable P f) (hol : AllL (envX P l ol n k) fn.body ol)
    {ts : List Sh} {rs : Rs} {t : HL ts → RT rs.den} (h : ∀ a, evVal (envX P l ol n k) fn ts rs a = (t a).map some) : EntryOk P f (pureE ts rs (fun _ => none) (fun a => (t a).val)) := by
  obtain ⟨c, hc, hlo⟩ := loopsFn hb hn hol
  exact pureE_tree (E := envX P l ol n k) (envX_ok hl ol n k) hf hc hlo hcall h
theorem box_part (hl : AllOk P l) (hf : P.funcs[f]? = some fn) (hb : fn.body.isSome = true) (hn : nodupL (loopsIn (fn.body.getD .skip)) = true) (hcall : Callable P f) (hol : AllL (envX P l ol n k) fn.body ol)
    {rb : R} {ts : List Sh} {rs : Rs} {t : rb.den × HL ts → RT (Option (rs.den × rb.den))} (h : ∀ a, evBox (envX P l ol n k) fn rb ts rs a = t a) :
    EntryOk P f (boxE rb ts rs (fun a => okO (t a).val) (fun a => getO (rs.dflt, rb.dflt) (t a).val)) := by
  obtain ⟨c, hc, hlo⟩ := loopsFn hb hn hol
  exact boxE_ok (E := envX P l ol n k) (envX_ok hl ol n k) hf hc hlo hcall fun a _ _ hp => by rw [h a]; exact okO_get hp
theorem box_tot (hl : AllOk P l) (hf : P.funcs[f]? = some fn) (hb : fn.body.isSome = true) (hn : nodupL (loopsIn (fn.body.getD .skip)) = true) (hcall : Callable P f) (hol : AllL (envX P l ol n k) fn.body ol)
    {rb : R} {ts : List Sh} {rs : Rs} {t : rb.den × HL ts → RT (rs.den × rb.den)} (h : ∀ a, evBox (envX P l ol n k) fn rb ts rs a = (t a).map some) :
    EntryOk P f (boxE rb ts rs (fun _ => none) (fun a => (t a).val)) := by
  obtain ⟨c, hc, hlo⟩ := loopsFn hb hn hol
  exact boxE_ok (E := envX P l ol n k) (envX_ok hl ol n k) hf hc hlo hcall fun a _ _ _ => by rw [h a, RT.val_map]
/-- A function that is walked through wherever it is called. -/
theorem inl_ok (hl : AllOk P l) (hf : P.funcs[f]? = some fn) (hb : fn.body.isSome = true) (hn : nodupL (loopsIn (fn.body.getD .skip)) = true) (hcall : Callable P f) (hol : AllL (envX P l ol n k) fn.body ol) :
    EntryOk P f (.tree (evFunc (envX P l ol n k) fn)) := by
  obtain ⟨c, hc, hlo⟩ := loopsFn hb hn hol
  exact inline_ok (E := envX P l ol n k) (envX_ok hl ol n k) hf hc hlo hcall
/-- A loop whose rounds the tree tells: rounds, as many as fuel says at most. fl: may it end by a return? -/
def runF {D : Type} (fl : Bool) (t : D → RT (Option (Go1 D))) (fuel : D → Nat) (a : D) : Option (Bool × D) := match runL (fun a => (t a).val) (fuel a) a with
  | some (b, d) => match fl || !b with
    | true => some (b, d)
    | false => none
  | none => none
def loopE (fl : Bool) (c : LS) (t : c.D → RT (Option (Go1 c.D))) (fuel : c.D → Nat) : Ora := oraOf fl c (fun a => okO (runF fl t fuel a)) (fun a => getO (false, a) (runF fl t fuel a))
theorem loop_part {E : Env} (hE : EnvOk E) {id : Nat} {b : Code} (hl : LoopsOk E b) {c : LS} {fl : Bool} {t : c.D → RT (Option (Go1 c.D))} {fuel : c.D → Nat} (h : ∀ a, roundOf E b id c a = t a) :
    OraOk E (.block id (.loop b)) (loopE fl c t fuel) := by
  refine loop_ok hE hl (fuel := fuel) fun a _ hp => ?_
  have he : (fun a => (roundOf E b id c a).val) = fun a => (t a).val := by funext a; rw [h a]
  rw [he]
  have := okO_get (d := (false, a)) hp
  unfold runF at this ⊢
  cases hr : runL (fun a => (t a).val) (fuel a) a with
  | none => rw [hr] at this; simp at this
  | some q =>
    obtain ⟨r, d⟩ := q
    rw [hr] at this
    simp only at this ⊢
    cases hfl : fl || !r with
    | false => rw [hfl] at this; simp at this
    | true =>
      simp only [getO, true_and]
      cases fl <;> cases r <;> simp at hfl ⊢
end
end Go.S3
