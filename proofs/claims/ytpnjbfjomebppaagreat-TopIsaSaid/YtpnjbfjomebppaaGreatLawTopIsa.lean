import Derived.Test.YtpnjbfjomebppaaGreatRows
import Derived.Test.YtpnjbfjomebppaaGreatS3D
import Derived.Test.YtpnjbfjomebppaaGreatLawI
namespace Go.Proofs.YtpnjbfjomebppaaGreat.topIsa
open Go.ChangeShapes Go.WideShapes Go.ChangeAt Go.RowKit
open Go.S3 (law_run args_stay trodAll_len)
set_option linter.unusedVariables false

theorem own : ownKnob Tryz.prog.godebug = none := by kernel_rfl
theorem laid : laidOutB Tryz.prog = true := by kernel_rfl
theorem ji : (Rows.topIsaRow.inPlace == Tryz.prog.inPlace 5) = true := by kernel_rfl
theorem ju : (Rows.topIsaRow.unfollowed == Tryz.prog.unfollowed 5) = true := by kernel_rfl
theorem jr : (Rows.topIsaRow.recurses == Tryz.prog.recurses 5) = true := by kernel_rfl
theorem jn : (Rows.topIsaRow.named == Tryz.prog.varsNamed 5) = true := by kernel_rfl
theorem jf : joinedFacts Tryz.prog 5 Tryz.f5 Rows.topIsaSpec Rows.topIsaRow = true := by
  unfold joinedFacts
  rw [laid, ji, ju, jr, jn]
  kernel_rfl

set_option maxRecDepth 100000 in
theorem lifted (os : Os) (started : os.Started) (H : Type) (enc : TypeId × Value → H) :
    ReturnsInHanded {} Tryz.checked os 5 .any (Rows.topIsaSpec.pre6 enc Tryz.prog Tryz.f5 Rows.topIsaRow.domain false) (Rows.topIsaSpec.post enc Tryz.prog Tryz.f5 false true false false) := by
  refine returnsInHanded_of_change (C := Tryz.checked) own started (by kernel_rfl) Tryz.func5
    (ChangeSpec.witness6 (enc := enc) (C := Tryz.checked) false ⟨#[], #[.slice none 0 0, .slice none 0 0], []⟩ 8 (by kernel_rfl) (by kernel_rfl) (by kernel_rfl) (by kernel_rfl)) ?_
  intro W base args ds gs before hval0 hW hcnd _
  have hval : ∀ (j : Nat) t v, Tryz.f5.params[j]? = some t → args[j]? = some v → Value.okWide Tryz.prog W .any base t v := hval0
  have hW' := hW
  obtain ⟨p, q, hA0, hV, rfl, hfz, hnd⟩ := hW
  have hA : DataW.TrodAll enc Tryz.prog W 0 (fun _ => true) true Tryz.f5.params.toList args.toList ds p := hA0
  obtain ⟨rfl, rfl⟩ := trodVars_none hV
  obtain ⟨d0, d1, rfl⟩ : ∃ d0 d1, ds = [d0, d1] := by
    have hlen : ds.length = 2 := trodAll_len hA
    match ds, hlen with
    | [d0, d1], _ => exact ⟨_, _, rfl⟩
  have hst : (Tryz.f5.params.toList.all fun t => Tryz.prog.readableRec t && decide (t < Tryz.prog.types.size)) = true := by kernel_rfl
  refine (law_run lTIsa_ok (ts := Tryz.f5.params.toList) (by kernel_rfl) (by kernel_rfl) (by kernel_rfl) (fun a h => by obtain ⟨h1, h2⟩ := tisa_law a.1 a.2; exact ⟨by simp [h1], h2⟩) (fun j t v h1 h2 => hval j t v (by simpa using h1) h2) hA).mono fun e W' ⟨he, bel⟩ => ?_
  subst he
  exact ⟨_, rfl, _, _, _, [], _, [], hW', trodAll_mk1 (shut_bool Tryz.underlying4 _), args_stay laid bel hst hA, rfl, bel.frame _, fun h => by cases h⟩

theorem over : Rows.topIsaRow.holds Tryz.pinned (OpenSpec.ofChange Rows.topIsaSpec) :=
  OpenClaim.holds_of_wide 5 Tryz.f5 rfl rfl rfl rfl rfl rfl rfl ⟨rfl, rfl, rfl, rfl, rfl⟩ rfl rfl rfl rfl rfl (by kernel_rfl) Tryz.func5 jf
    (of_decide_eq_true (by kernel_rfl)) (by unfold Func.isWrapper; first | (rw [if_pos (by decide +kernel)]; kernel_rfl) | (rw [if_neg (by decide +kernel)]; exact ⟨rfl, rfl⟩))
    (fun os started H enc _ => lifted os started H enc)

theorem proved : Rows.TopIsaSaid :=
  over
#print axioms proved
end Go.Proofs.YtpnjbfjomebppaaGreat.topIsa
