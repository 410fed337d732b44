/-
  Contracts of functions of values that are handed a function last. Conditions: none (definitions and lemmas).
-/
import Derived.Test.YtghoimllhpjkjaaGreatS3Stg
set_option linter.unusedVariables false
set_option linter.unusedSimpArgs false
namespace Go.S3
def ZyQ (g0 : FuncId) (ts : List Sh) (rs : Rs) (pre : HL ts → Option Bool) (F : HL ts → rs.den) : Entry :=
 .pure fun vs => match cutF g0 vs with
  | some us => match Zhu ts us with
   | some a => some (pre a, rs.enc (F a))
   | none => none
  | none => none
def ZBo (E : Env) (fn : Func) (g0 : FuncId) (ts : List Sh) (rs : Rs) (a : HL ts) : RT (Option rs.den) := (ZQ E fn (ZeT ts a ++ [cloV g0]) Zc1).map fun
 | some r => rs.out r.m r.v
 | none => none
theorem ZyP {E : Env} (hE : Za1 E) {f : FuncId} {fn : Func} {c : Code} (hf : E.P.funcs[f]? = some fn) (hb : fn.body = some c) (hl : ZO E c) (hcall : ZG E.P f)
  {g0 : FuncId} {ts : List Sh} {rs : Rs} {pre : HL ts → Option Bool} {F : HL ts → rs.den} (h : ∀ a, okHL ts a → pre a ≠ some false → (ZBo E fn g0 ts rs a).val = some (F a)) :
  Zc E.P f (ZyQ g0 ts rs pre F) := by
 refine ⟨hcall, fun vs chk v hp hc x m w args hm hv => ?_⟩
 simp only at hp
 split at hp
 ·rename_i us hus
  split at hp
  ·rename_i a ha
   simp only [oinj, pinj] at hp
   obtain ⟨rfl, rfl⟩ := hp
   obtain ⟨args', u, rfl, hv2, hu⟩ := Zn0 hus hv
   obtain ⟨hargs, hin⟩ := Zbm ha hv2
   have h1 := h a hin hc
   unfold ZBo at h1
   rw [RT.val_map] at h1
   split at h1
   ·rename_i r hr
    have hle : FzLe x (Ctx.own0 w x.fz) := fun _ _ _ e => e
    have hargs' : RVs (Ctx.own0 w x.fz) (ZeT ts a ++ [cloV g0]) (args' ++ [u]) := Zn8 (Zcv (Zb8 hle ts a (Za0 hargs))) (ZBF hu)
    have h2 := ZaM hE hf hb hl (Zsv hm) hargs' hr
    refine h2.mono fun e w' hres => ?_
    obtain ⟨val, x1, rfl, hrv, hm1, hext, hst⟩ := hres
    obtain ⟨x2, m2, hm2, hext2, hrv2⟩ := Rs.out_ok h1 hm1 hrv
    obtain ⟨h3, h4⟩ := Ztd hm (hext.trans hext2) hm2.fz (Za3 hst).1
    exact ⟨val, { x with fz := x2.fz }, rfl, Rs.enc_ctx (x := x2) (x' := { x with fz := x2.fz }) (fun _ _ _ e => e) rs _ hrv2, h3, h4, Za3 hst⟩
   ·simp at h1
  ·simp at hp
 ·simp at hp
section
variable {P : Program} {l : List (FuncId × Entry)} {ol : List (Nat × Ora)} {n k : Nat} {f : FuncId} {fn : Func}
theorem ZvP (hl : Zc8 P l) (hf : P.funcs[f]? = some fn) (hb : fn.body.isSome = true) (hn : Za9 (ZA (fn.body.getD .skip)) = true) (hcall : ZG P f) (hol : AllL (envX P l ol n k) fn.body ol)
  {g0 : FuncId} {ts : List Sh} {rs : Rs} {t : HL ts → RT (Option rs.den)} (h : ∀ a, ZBo (envX P l ol n k) fn g0 ts rs a = t a) : Zc P f (ZyQ g0 ts rs (fun a => okO (t a).val) (fun a => getO rs.dflt (t a).val)) := by
 obtain ⟨c, hc, hlo⟩ := Zcb hb hn hol
 exact ZyP (E := envX P l ol n k) (ZF hl ol n k) hf hc hlo hcall fun a _ hp => by rw [h a]; exact Zeg hp
end
end Go.S3
