/-
  Contracts of functions of values that are handed a function last. Conditions: none (definitions and lemmas).
-/
import Derived.Test.YtghoimllhpjkjaaGreatS3Stg
set_option linter.unusedVariables false
set_option linter.unusedSimpArgs false
namespace Go.S3
def ZEj (g0 : FuncId) (ts : List Sh) (rs : Rs) (pre : HL ts → Option Bool) (F : HL ts → rs.den) : Entry :=
 .pure fun vs => match cutF g0 vs with
  | some us => match Zl5 ts us with
   | some a => some (pre a, rs.enc (F a))
   | none => none
  | none => none
def ZGE (E : Env) (fn : Func) (g0 : FuncId) (ts : List Sh) (rs : Rs) (a : HL ts) : RT (Option rs.den) := (ZS E fn (Zg2 ts a ++ [cloV g0]) Zd3).map fun
 | some r => rs.out r.m r.v
 | none => none
theorem ZEi {E : Env} (hE : Zbv E) {f : FuncId} {fn : Func} {c : Code} (hf : E.P.funcs[f]? = some fn) (hb : fn.body = some c) (hl : Z5 E c) (hcall : Z0 E.P f)
  {g0 : FuncId} {ts : List Sh} {rs : Rs} {pre : HL ts → Option Bool} {F : HL ts → rs.den} (h : ∀ a, okHL ts a → pre a ≠ some false → (ZGE E fn g0 ts rs a).val = some (F a)) :
  Zc E.P f (ZEj g0 ts rs pre F) := by
 refine ⟨hcall, fun vs chk v hp hc x m w args hm hv => ?_⟩
 simp only at hp
 split at hp
 ·rename_i us hus
  split at hp
  ·rename_i a ha
   simp only [oinj, pinj] at hp
   obtain ⟨rfl, rfl⟩ := hp
   obtain ⟨args', u, rfl, hv2, hu⟩ := Zq7 hus hv
   obtain ⟨hargs, hin⟩ := ZcW ha hv2
   have h1 := h a hin hc
   unfold ZGE at h1
   rw [RT.val_map] at h1
   split at h1
   ·rename_i r hr
    have hle : FzLe x (Ctx.own0 w x.fz) := fun _ _ _ e => e
    have hargs' : RVs (Ctx.own0 w x.fz) (Zg2 ts a ++ [cloV g0]) (args' ++ [u]) := Zrm (ZdA (Zdm hle ts a (ZbM hargs))) (ZGY hu)
    have h2 := Zbo hE hf hb hl (ZFL hm) hargs' hr
    refine h2.mono fun e w' hres => ?_
    obtain ⟨val, x1, rfl, hrv, hm1, hext, hst⟩ := hres
    obtain ⟨x2, m2, hm2, hext2, hrv2⟩ := Rs.out_ok h1 hm1 hrv
    obtain ⟨h3, h4⟩ := ZG6 hm (hext.trans hext2) hm2.fz (ZcO hst).1
    exact ⟨val, { x with fz := x2.fz }, rfl, Rs.enc_ctx (x := x2) (x' := { x with fz := x2.fz }) (fun _ _ _ e => e) rs _ hrv2, h3, h4, ZcO hst⟩
   ·simp at h1
  ·simp at hp
 ·simp at hp
section
variable {P : Program} {l : List (FuncId × Entry)} {ol : List (Nat × Ora)} {n k : Nat} {f : FuncId} {fn : Func}
theorem ZAE (hl : Zc0 P l) (hf : P.funcs[f]? = some fn) (hb : fn.body.isSome = true) (hn : ZbC (ZM (fn.body.getD .skip)) = true) (hcall : Z0 P f) (hol : AllL (envX P l ol n k) fn.body ol)
  {g0 : FuncId} {ts : List Sh} {rs : Rs} {t : HL ts → RT (Option rs.den)} (h : ∀ a, ZGE (envX P l ol n k) fn g0 ts rs a = t a) : Zc P f (ZEj g0 ts rs (fun a => okO (t a).val) (fun a => getO rs.dflt (t a).val)) := by
 obtain ⟨c, hc, hlo⟩ := Zdh hb hn hol
 exact ZEi (E := envX P l ol n k) (ZT hl ol n k) hf hc hlo hcall fun a _ hp => by rw [h a]; exact Zf1 hp
end
end Go.S3
