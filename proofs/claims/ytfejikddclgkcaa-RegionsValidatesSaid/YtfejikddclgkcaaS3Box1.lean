/-
  Contracts of functions that are handed a pointer to a box second. Conditions: none (definitions and lemmas).
-/
import Derived.Test.YtfejikddclgkcaaS3D
set_option linter.unusedVariables false
set_option linter.unusedSimpArgs false
namespace Go.S3
def swap2 {α : Type} : List α → List α
  | a :: b :: l => b :: a :: l
  | l => l
theorem swap2_twice {α : Type} : ∀ l : List α, swap2 (swap2 l) = l
  | [] | [_] | _ :: _ :: _ => rfl
theorem RVs_swap2 {x : Ctx} : ∀ {vs : List V} {args : List Value}, RVs x vs args → RVs x (swap2 vs) (swap2 args)
  | [], [], h => h
  | [_], [_], h => h
  | _ :: _ :: _, _ :: _ :: _, h => ⟨h.2.1, h.1, h.2.2⟩
  | [], _ :: _, h => h.elim
  | _ :: _, [], h => h.elim
  | [_], _ :: _ :: _, h => h.2.elim
  | _ :: _ :: _, [_], h => h.2.elim
/-- A function that is handed a pointer to a box second, whose row has the code rb. -/
def box1E (rb : R) (ts : List Sh) (rs : Rs) (pre : rb.den × HL ts → Option Bool) (F : rb.den × HL ts → rs.den × rb.den) : Entry :=
  .tree fun vs m => match boxE rb ts rs pre F with
    | .own g => g (swap2 vs) m
    | _ => .leaf none
def evBox1 (E : Env) (fn : Func) (rb : R) (ts : List Sh) (rs : Rs) (a : rb.den × HL ts) : RT (Option (rs.den × rb.den)) := (evFunc E fn (swap2 (.w (.one (.loc 0 0)) :: encVs ts a.2)) ⟨[rb.enc a.1], []⟩).map fun
  | some r => outBox rb rs r
  | none => none
theorem box1E_ok {E : Env} (hE : EnvOk E) {f : FuncId} {fn : Func} {c : Code} (hf : E.P.funcs[f]? = some fn) (hb : fn.body = some c) (hl : LoopsOk E c) (hcall : Callable E.P f)
    {rb : R} {ts : List Sh} {rs : Rs} {pre : rb.den × HL ts → Option Bool} {F : rb.den × HL ts → rs.den × rb.den} (h : ∀ a, rb.ok a.1 → okHL ts a.2 → pre a ≠ some false → (evBox1 E fn rb ts rs a).val = some (F a)) :
    EntryOk E.P f (box1E rb ts rs pre F) := by
  refine ⟨hcall, fun vs m => boxE_keep rb ts rs pre F (swap2 vs) m, fun vs0 m r hp hc x w args0 hm hv0 => ?_⟩
  obtain ⟨vs, hvs⟩ : ∃ vs, swap2 vs0 = vs := ⟨_, rfl⟩
  obtain ⟨args, hargs0⟩ : ∃ args, swap2 args0 = args := ⟨_, rfl⟩
  have hv : RVs x vs args := by rw [← hvs, ← hargs0]; exact RVs_swap2 hv0
  have hback : args0 = swap2 args := by rw [← hargs0, swap2_twice]
  simp only [boxE, hvs] at hp
  split at hp
  · rename_i b rest
    split at hp
    · rename_i row hrow
      split at hp
      · rename_i y hy
        split at hp
        · rename_i a ha
          simp only [RT.val, Option.some.injEq] at hp
          subst hp
          match args, hv with
          | v :: args, hv =>
            obtain ⟨p, hp⟩ := hm.M_of hrow
            have hv1 : RA x (.loc b 0) v := hv.1
            have hve : v = .pointer (some ⟨p, 0, none⟩) := by
              cases hv1 with
              | loc _ _ _ q hq => rw [hp] at hq; simp only [Option.some.injEq] at hq; subst hq; rfl
            subst hve
            obtain ⟨hargs, hin⟩ := decVs_ok ha hv.2
            obtain ⟨C0, T0, e1, e2⟩ := hm.box b row p hrow hp
            have hyok : rb.ok y := R.ok_of rb y x C0 (R.decW_ok hy e2)
            have h1 := h (y, a) hyok hin hc
            unfold evBox1 at h1
            rw [RT.val_map] at h1
            split at h1
            · rename_i r hr
              have hargs' : RVs (Ctx.own1 w x.fz p) (.w (.one (.loc 0 0)) :: encVs ts a) (.pointer (some ⟨p, 0, none⟩) :: args) :=
                ⟨RA.loc _ _ _ _ rfl, RVs_mapW (encWs_ctx (x := x) (x' := Ctx.own1 w x.fz p) (fun _ _ _ e => e) ts a (RWs_of_mapW hargs))⟩
              rw [hback]
              have h2 := calls_of_ev hE hf hb hl (own1_ok hm hrow hp hy) (RVs_swap2 hargs') hr
              refine h2.mono fun e w' hres => ?_
              obtain ⟨val, x1, rfl, hrv, hm1, hext, hst⟩ := hres
              unfold outBox at h1
              split at h1
              · rename_i u hu
                split at h1
                · rename_i row' hrow'
                  split at h1
                  · rename_i y' hy'
                    simp only [Option.some.injEq] at h1
                    obtain ⟨x2, m2, hm2, hext2, hrv2⟩ := Rs.out_ok hu hm1 hrv
                    obtain ⟨C, T, hc1, hc2⟩ := hm1.box 0 row' p hrow' (hext.M 0 p rfl)
                    obtain ⟨q1, q2, q3⟩ := back1_ok hm hrow hp (row1 := row) (hext.trans hext2) hm2 hst hc1 ((R.decW_ok hy' hc2).mono hext2) (R.enc_plain rb y')
                    rw [← h1]
                    exact ⟨val, { x with fz := x2.fz }, rfl, Rs.enc_ctx (x := x2) (x' := { x with fz := x2.fz }) (fun _ _ _ e => e) rs _ hrv2, q1, q2, q3⟩
                  · simp at h1
                · simp at h1
              · simp at h1
            · simp at h1
          | [], hv => exact hv.elim
        · simp [RT.val] at hp
      · simp [RT.val] at hp
    · simp [RT.val] at hp
  · simp [RT.val] at hp

section
variable {P : Program} {l : List (FuncId × Entry)} {ol : List (Nat × Ora)} {n k : Nat} {f : FuncId} {fn : Func}
theorem box1_part (hl : AllOk P l) (hf : P.funcs[f]? = some fn) (hb : fn.body.isSome = true) (hn : nodupL (loopsIn (fn.body.getD .skip)) = true) (hcall : Callable P f) (hol : AllL (envX P l ol n k) fn.body ol)
    {rb : R} {ts : List Sh} {rs : Rs} {t : rb.den × HL ts → RT (Option (rs.den × rb.den))} (h : ∀ a, evBox1 (envX P l ol n k) fn rb ts rs a = t a) :
    EntryOk P f (box1E rb ts rs (fun a => okO (t a).val) (fun a => getO (rs.dflt, rb.dflt) (t a).val)) := by
  obtain ⟨c, hc, hlo⟩ := loopsFn hb hn hol
  exact box1E_ok (E := envX P l ol n k) (envX_ok hl ol n k) hf hc hlo hcall fun a _ _ hp => by rw [h a]; exact okO_get hp
theorem box1_tot (hl : AllOk P l) (hf : P.funcs[f]? = some fn) (hb : fn.body.isSome = true) (hn : nodupL (loopsIn (fn.body.getD .skip)) = true) (hcall : Callable P f) (hol : AllL (envX P l ol n k) fn.body ol)
    {rb : R} {ts : List Sh} {rs : Rs} {t : rb.den × HL ts → RT (rs.den × rb.den)} (h : ∀ a, evBox1 (envX P l ol n k) fn rb ts rs a = (t a).map some) :
    EntryOk P f (box1E rb ts rs (fun _ => none) (fun a => (t a).val)) := by
  obtain ⟨c, hc, hlo⟩ := loopsFn hb hn hol
  exact box1E_ok (E := envX P l ol n k) (envX_ok hl ol n k) hf hc hlo hcall fun a _ _ _ => by rw [h a, RT.val_map]
end
end Go.S3
