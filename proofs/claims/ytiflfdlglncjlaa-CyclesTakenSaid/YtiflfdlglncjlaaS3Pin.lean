/-
  Contracts that are shown case by case: in each case the executor is told what a callee hands back. Conditions: none (definitions and lemmas).
-/
import Derived.Test.YtiflfdlglncjlaaS3Lib
set_option linter.unusedSimpArgs false
set_option linter.unusedVariables false
namespace Go.S3

/-- The same as pureE, where the first cell is known to be k. -/
def pinE (ts : List Sh) (r : R) (G : HL ts → Int × r.den) (k : Int) : Entry := .pure fun vs => match decVs ts vs with
  | some a => some (some ((G a).1 == k), .w (.agg (.int true .i64 k :: r.enc (G a).2)))
  | none => none
theorem pinE_ok {P : Program} {f : FuncId} {ts : List Sh} {r : R} {G : HL ts → Int × r.den} (h : EntryOk P f (pureE ts (.one (.agg (.pair (.int .i64) r))) (fun _ => none) G)) (k : Int) : EntryOk P f (pinE ts r G k) := by
  refine ⟨h.1, fun vs chk v hp hc x m w args hm hv => ?_⟩
  simp only at hp
  split at hp
  · rename_i a ha
    simp only [Option.some.injEq, Prod.mk.injEq] at hp
    obtain ⟨rfl, rfl⟩ := hp
    have hk : (G a).1 = k := by
      cases he : (G a).1 == k with
      | true => simpa using he
      | false => rw [he] at hc; exact absurd rfl hc
    have h3 := h.2 vs none ((Rs.one (.agg (.pair (.int .i64) r))).enc (G a)) (by simp only [ha]) (by simp) x m w args hm hv
    refine Calls.mono h3 fun e w' hres => ?_
    obtain ⟨val, x', rfl, hv, hm', hx, hw⟩ := hres
    refine ⟨val, x', rfl, ?_, hm', hx, hw⟩
    obtain ⟨C, rfl, hC⟩ := hv
    refine ⟨C, rfl, ?_⟩
    have hC : RL x' (.int false .i64 (G a).1 :: r.enc (G a).2) C := hC
    match C, hC with
    | u :: C, hC =>
      refine ⟨?_, hC.2⟩
      have h1 := hC.1
      rw [hk] at h1
      cases h1; exact .int _ _ _ _ (by assumption)
  · simp at hp
/-- The same for one number. -/
def pin1E (ts : List Sh) (G : HL ts → Int) (k : Int) : Entry := .pure fun vs => match decVs ts vs with
  | some a => some (some (G a == k), .w (.one (.int true .i64 k)))
  | none => none
theorem pin1E_ok {P : Program} {f : FuncId} {ts : List Sh} {G : HL ts → Int} (h : EntryOk P f (pureE ts (.one (.one (.int .i64))) (fun _ => none) G)) (k : Int) : EntryOk P f (pin1E ts G k) := by
  refine ⟨h.1, fun vs chk v hp hc x m w args hm hv => ?_⟩
  simp only at hp
  split at hp
  · rename_i a ha
    simp only [Option.some.injEq, Prod.mk.injEq] at hp
    obtain ⟨rfl, rfl⟩ := hp
    have hk : G a = k := by
      cases he : G a == k with
      | true => simpa using he
      | false => rw [he] at hc; exact absurd rfl hc
    have h3 := h.2 vs none ((Rs.one (.one (.int .i64))).enc (G a)) (by simp only [ha]) (by simp) x m w args hm hv
    refine Calls.mono h3 fun e w' hres => ?_
    obtain ⟨val, x', rfl, hv, hm', hx, hw⟩ := hres
    refine ⟨val, x', rfl, ?_, hm', hx, hw⟩
    have h1 : RA x' (.int false .i64 (G a)) val := hv
    rw [hk] at h1
    show RA x' (.int true .i64 k) val
    cases h1; exact .int _ _ _ _ (by assumption)
  · simp at hp

/-- A contract whose cases are shown each in an environment of its own. -/
theorem pure_any {P : Program} {f : FuncId} {fn : Func} {n k : Nat} (hf : P.funcs[f]? = some fn) (hb : fn.body.isSome = true) (hn : nodupL (loopsIn (fn.body.getD .skip)) = true) (hcall : Callable P f)
    {ts : List Sh} {rs : Rs} {pre : HL ts → Option Bool} {F : HL ts → rs.den} (h : ∀ a, okHL ts a → pre a ≠ some false → ∃ l, AllOk P l ∧ (evVal (envX P l [] n k) fn ts rs a).val = some (F a)) :
    EntryOk P f (pureE ts rs pre F) := by
  refine ⟨hcall, fun vs chk v hp hc x m w args hm hv => ?_⟩
  have hp0 := hp
  simp only at hp
  split at hp
  · rename_i a ha
    simp only [Option.some.injEq, Prod.mk.injEq] at hp
    obtain ⟨rfl, rfl⟩ := hp
    obtain ⟨_, hin⟩ := decVs_ok ha hv
    obtain ⟨l, hl, he⟩ := h a hin hc
    obtain ⟨c, hc', hlo⟩ := loopsFn (P := P) (l := l) (ol := []) (n := n) (k := k) hb hn trivial
    -- the contract that speaks of a alone
    have hE : EntryOk P f (pureE ts rs (fun b => okO (evVal (envX P l [] n k) fn ts rs b).val) (fun b => getO rs.dflt (evVal (envX P l [] n k) fn ts rs b).val)) :=
      pureE_ok (E := envX P l [] n k) (envX_ok hl [] n k) hf hc' hlo hcall fun b _ hp => okO_get hp
    have := hE.2 vs (okO (evVal (envX P l [] n k) fn ts rs a).val) (rs.enc (getO rs.dflt (evVal (envX P l [] n k) fn ts rs a).val)) (by simp only [ha]) (by rw [he]; simp [okO, okB]) x m w args hm hv
    rw [he] at this
    exact this
  · simp at hp
end Go.S3
