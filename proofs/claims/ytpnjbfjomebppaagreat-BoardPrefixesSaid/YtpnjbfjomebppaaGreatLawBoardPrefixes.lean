import Derived.Test.YtpnjbfjomebppaaGreatRows
import Derived.Test.YtpnjbfjomebppaaGreatS3D
import Derived.Test.YtpnjbfjomebppaaGreatAllL
namespace Go.Proofs.YtpnjbfjomebppaaGreat.boardPrefixes
open Go.ChangeShapes Go.WideShapes Go.ChangeAt Go.RowKit
open Go.S3 (law_run args_stay trodAll_len)
set_option linter.unusedVariables false

theorem own : ownKnob Tryz.prog.godebug = none := by kernel_rfl
theorem laid : laidOutB Tryz.prog = true := by kernel_rfl
theorem ji : (Rows.boardPrefixesRow.inPlace == Tryz.prog.inPlace 9) = true := by kernel_rfl
theorem ju : (Rows.boardPrefixesRow.unfollowed == Tryz.prog.unfollowed 9) = true := by kernel_rfl
theorem jr : (Rows.boardPrefixesRow.recurses == Tryz.prog.recurses 9) = true := by kernel_rfl
theorem jn : (Rows.boardPrefixesRow.named == Tryz.prog.varsNamed 9) = true := by kernel_rfl
theorem jf : joinedFacts Tryz.prog 9 Tryz.f9 Rows.boardPrefixesSpec Rows.boardPrefixesRow = true := by
  unfold joinedFacts
  rw [laid, ji, ju, jr, jn]
  kernel_rfl

set_option maxRecDepth 100000 in
theorem lifted (os : Os) (started : os.Started) (H : Type) (enc : TypeId × Value → H) :
    ReturnsInHanded {} Tryz.checked os 9 .any (Rows.boardPrefixesSpec.pre6 enc Tryz.prog Tryz.f9 Rows.boardPrefixesRow.domain false) (Rows.boardPrefixesSpec.post enc Tryz.prog Tryz.f9 false true false false) := by
  refine returnsInHanded_of_change (C := Tryz.checked) own started (by kernel_rfl) Tryz.func9
    (ChangeSpec.witness6 (enc := enc) (C := Tryz.checked) false ⟨#[], #[.slice none 0 0, .int .i64 0], []⟩ 8 (by kernel_rfl) (by kernel_rfl) (by kernel_rfl) (by kernel_rfl)) ?_
  intro W base args ds gs before hval0 hW hcnd _
  have hval : ∀ (j : Nat) t v, Tryz.f9.params[j]? = some t → args[j]? = some v → Value.okWide Tryz.prog W .any base t v := hval0
  have hW' := hW
  obtain ⟨p, q, hA0, hV, rfl, hfz, hnd⟩ := hW
  have hA : DataW.TrodAll enc Tryz.prog W 0 (fun _ => true) true Tryz.f9.params.toList args.toList ds p := hA0
  obtain ⟨rfl, rfl⟩ := trodVars_none hV
  obtain ⟨d0, d1, rfl⟩ : ∃ d0 d1, ds = [d0, d1] := by
    have hlen : ds.length = 2 := trodAll_len hA
    match ds, hlen with
    | [d0, d1], _ => exact ⟨_, _, rfl⟩
  have hst : (Tryz.f9.params.toList.all fun t => Tryz.prog.readableRec t && decide (t < Tryz.prog.types.size)) = true := by kernel_rfl
  refine (law_run lBPre_ok (ts := Tryz.f9.params.toList) (by kernel_rfl) (by kernel_rfl) (by kernel_rfl) (fun a h => by obtain ⟨h1, h2⟩ := bpre_law a.1 a.2; exact ⟨by simp [h1], h2⟩) (fun j t v h1 h2 => hval j t v (by simpa using h1) h2) hA).mono fun e W' ⟨he, bel⟩ => ?_
  subst he
  exact ⟨_, rfl, _, _, _, [], _, [], hW', trodAll_mk1 (shut_bool Tryz.underlying4 _), args_stay laid bel hst hA, rfl, bel.frame _, fun h => by cases h⟩

theorem over : Rows.boardPrefixesRow.holds Tryz.pinned (OpenSpec.ofChange Rows.boardPrefixesSpec) :=
  OpenClaim.holds_of_wide 9 Tryz.f9 rfl rfl rfl rfl rfl rfl rfl ⟨rfl, rfl, rfl, rfl, rfl⟩ rfl rfl rfl rfl rfl (by kernel_rfl) Tryz.func9 jf
    (of_decide_eq_true (by kernel_rfl)) (by unfold Func.isWrapper; first | (rw [if_pos (by decide +kernel)]; kernel_rfl) | (rw [if_neg (by decide +kernel)]; exact ⟨rfl, rfl⟩))
    (fun os started H enc _ => lifted os started H enc)

theorem proved : Rows.BoardPrefixesSaid :=
  over
#print axioms proved
end Go.Proofs.YtpnjbfjomebppaaGreat.boardPrefixes
