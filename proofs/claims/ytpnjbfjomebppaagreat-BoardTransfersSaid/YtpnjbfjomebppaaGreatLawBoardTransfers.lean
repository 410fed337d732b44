import Derived.Test.YtpnjbfjomebppaaGreatRows
import Derived.Test.YtpnjbfjomebppaaGreatS3D
import Derived.Test.YtpnjbfjomebppaaGreatAllL
namespace Go.Proofs.YtpnjbfjomebppaaGreat.boardTransfers
open Go.ChangeShapes Go.WideShapes Go.ChangeAt Go.RowKit
open Go.S3 (law_run args_stay trodAll_len)
set_option linter.unusedVariables false

theorem own : ownKnob Tryz.prog.godebug = none := by kernel_rfl
theorem laid : laidOutB Tryz.prog = true := by kernel_rfl
theorem ji : (Rows.boardTransfersRow.inPlace == Tryz.prog.inPlace 11) = true := by kernel_rfl
theorem ju : (Rows.boardTransfersRow.unfollowed == Tryz.prog.unfollowed 11) = true := by kernel_rfl
theorem jr : (Rows.boardTransfersRow.recurses == Tryz.prog.recurses 11) = true := by kernel_rfl
theorem jn : (Rows.boardTransfersRow.named == Tryz.prog.varsNamed 11) = true := by kernel_rfl
theorem jf : joinedFacts Tryz.prog 11 Tryz.f11 Rows.boardTransfersSpec Rows.boardTransfersRow = true := by
  unfold joinedFacts
  rw [laid, ji, ju, jr, jn]
  kernel_rfl

set_option maxRecDepth 100000 in
theorem lifted (os : Os) (started : os.Started) (H : Type) (enc : TypeId × Value → H) :
    ReturnsInHanded {} Tryz.checked os 11 .any (Rows.boardTransfersSpec.pre6 enc Tryz.prog Tryz.f11 Rows.boardTransfersRow.domain false) (Rows.boardTransfersSpec.post enc Tryz.prog Tryz.f11 false true false false) := by
  refine returnsInHanded_of_change (C := Tryz.checked) own started (by kernel_rfl) Tryz.func11
    (ChangeSpec.witness6 (enc := enc) (C := Tryz.checked) false ⟨#[], #[.slice none 0 0, .int .u16 0, .int .u8 0, .int .u8 0], []⟩ 8 (by kernel_rfl) (by kernel_rfl) (by kernel_rfl) (by kernel_rfl)) ?_
  intro W base args ds gs before hval0 hW hcnd _
  have hval : ∀ (j : Nat) t v, Tryz.f11.params[j]? = some t → args[j]? = some v → Value.okWide Tryz.prog W .any base t v := hval0
  have hW' := hW
  obtain ⟨p, q, hA0, hV, rfl, hfz, hnd⟩ := hW
  have hA : DataW.TrodAll enc Tryz.prog W 0 (fun _ => true) true Tryz.f11.params.toList args.toList ds p := hA0
  obtain ⟨rfl, rfl⟩ := trodVars_none hV
  obtain ⟨d0, d1, d2, d3, rfl⟩ : ∃ d0 d1 d2 d3, ds = [d0, d1, d2, d3] := by
    have hlen : ds.length = 4 := trodAll_len hA
    match ds, hlen with
    | [d0, d1, d2, d3], _ => exact ⟨_, _, _, _, rfl⟩
  have hst : (Tryz.f11.params.toList.all fun t => Tryz.prog.readableRec t && decide (t < Tryz.prog.types.size)) = true := by kernel_rfl
  refine (law_run lBTra_ok (ts := Tryz.f11.params.toList) (by kernel_rfl) (by kernel_rfl) (by kernel_rfl) (fun a h => by obtain ⟨h1, h2⟩ := btra_law a.1 a.2.1 a.2.2.1 a.2.2.2 h.2.1 h.2.2.1 h.2.2.2; exact ⟨by simp [h1], h2⟩) (fun j t v h1 h2 => hval j t v (by simpa using h1) h2) hA).mono fun e W' ⟨he, bel⟩ => ?_
  subst he
  exact ⟨_, rfl, _, _, _, [], _, [], hW', trodAll_mk1 (shut_bool Tryz.underlying4 _), args_stay laid bel hst hA, rfl, bel.frame _, fun h => by cases h⟩

theorem over : Rows.boardTransfersRow.holds Tryz.pinned (OpenSpec.ofChange Rows.boardTransfersSpec) :=
  OpenClaim.holds_of_wide 11 Tryz.f11 rfl rfl rfl rfl rfl rfl rfl ⟨rfl, rfl, rfl, rfl, rfl⟩ rfl rfl rfl rfl rfl (by kernel_rfl) Tryz.func11 jf
    (of_decide_eq_true (by kernel_rfl)) (by unfold Func.isWrapper; first | (rw [if_pos (by decide +kernel)]; kernel_rfl) | (rw [if_neg (by decide +kernel)]; exact ⟨rfl, rfl⟩))
    (fun os started H enc _ => lifted os started H enc)

theorem proved : Rows.BoardTransfersSaid :=
  over
#print axioms proved
end Go.Proofs.YtpnjbfjomebppaaGreat.boardTransfers
