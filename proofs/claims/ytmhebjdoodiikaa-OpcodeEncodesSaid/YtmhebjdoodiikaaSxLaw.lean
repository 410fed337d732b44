/-
  From a contract of a law to the walk that its row asks for. Conditions: none (lemmas).
-/
import Derived.Test.YtmhebjdoodiikaaSxLoop
import Derived.ProofKit
import Derived.OpenShut
import Derived.ShutString
import Derived.ChangeOld
import Derived.Below
namespace Go.Sx
open Go.RowKit (Below)

theorem ctx0_ok (w : World) : MemOk (Ctx.own0 w (fun _ _ => none)) ⟨[], []⟩ w where
  fresh := fun _ h => h
  fz := fun b o v h => by simp [Ctx.own0] at h
  ml := rfl
  box := fun b l p h => by cases b <;> simp [nth] at h
  mown := fun b p h => by cases b <;> simp [Ctx.own0, nth] at h
  inj := fun b b' p h => by cases b <;> simp [Ctx.own0, nth] at h
  sl := rfl
  stg := fun i g s h => by cases i <;> simp [nth] at h
  sown := fun i s p cap h => by cases i <;> simp [Ctx.own0, nth] at h
  sinj := fun i i' s s' p cap cap' h => by cases i <;> simp [Ctx.own0, nth] at h

theorem law_walk {P : Program} {f : FuncId} {α : Type} {d : AC α} (h : EntryOk P f (pureE d (RC.one WC.bool) (fun _ => none) (fun _ => true))) {a : α} {args : List Value} {w : World}
    (hd : d.dec (d.enc a) = some a) (ha : ∀ x : Ctx, RVs x (d.enc a) args) : Calls P f args.toArray w fun e w' => e = .returned (.bool true) ∧ Below w.heap.size w w' := by
  have h2 := h.2 (d.enc a) none (.w (WC.bool.enc true)) (by simp only [hd]; rfl) (by simp) _ _ w args (ctx0_ok w) (ha _)
  refine h2.mono fun e w' hres => ?_
  obtain ⟨val, rfl, hv, hs⟩ := hres
  have := bool_of hv
  subst this
  exact ⟨rfl, hs.2.1, hs.2.2.1, hs.2.2.2, hs.1.1, hs.1.2⟩
theorem inR_of_wf {k : IntKind} {n : Int} (h : (Lit.int k n).wf = true) : inR k n := by
  simpa [Lit.wf, inR] using h
end Go.Sx
