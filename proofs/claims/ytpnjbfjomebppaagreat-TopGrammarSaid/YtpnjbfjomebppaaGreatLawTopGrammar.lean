import Derived.Test.YtpnjbfjomebppaaGreatRows
import Derived.Test.YtpnjbfjomebppaaGreatS3D
import Derived.Test.YtpnjbfjomebppaaGreatLawT
namespace Go.Proofs.YtpnjbfjomebppaaGreat.topGrammar
open Go.ChangeShapes Go.WideShapes Go.ChangeAt Go.RowKit
open Go.S3 (law_run args_stay trodAll_len)
set_option linter.unusedVariables false

theorem own : ownKnob Tryz.prog.godebug = none := by kernel_rfl
theorem laid : laidOutB Tryz.prog = true := by kernel_rfl
theorem ji : (Rows.topGrammarRow.inPlace == Tryz.prog.inPlace 4) = true := by kernel_rfl
theorem ju : (Rows.topGrammarRow.unfollowed == Tryz.prog.unfollowed 4) = true := by kernel_rfl
theorem jr : (Rows.topGrammarRow.recurses == Tryz.prog.recurses 4) = true := by kernel_rfl
theorem jn : (Rows.topGrammarRow.named == Tryz.prog.varsNamed 4) = true := by kernel_rfl
theorem jf : joinedFacts Tryz.prog 4 Tryz.f4 Rows.topGrammarSpec Rows.topGrammarRow = true := by
  unfold joinedFacts
  rw [laid, ji, ju, jr, jn]
  kernel_rfl

set_option maxRecDepth 100000 in
theorem lifted (os : Os) (started : os.Started) (H : Type) (enc : TypeId × Value → H) :
    ReturnsInHanded {} Tryz.checked os 4 .any (Rows.topGrammarSpec.pre6 enc Tryz.prog Tryz.f4 Rows.topGrammarRow.domain false) (Rows.topGrammarSpec.post enc Tryz.prog Tryz.f4 false true false false) := by
  refine returnsInHanded_of_change (C := Tryz.checked) own started (by kernel_rfl) Tryz.func4
    (ChangeSpec.witness6 (enc := enc) (C := Tryz.checked) false ⟨#[], #[.slice none 0 0], []⟩ 8 (by kernel_rfl) (by kernel_rfl) (by kernel_rfl) (by kernel_rfl)) ?_
  intro W base args ds gs before hval0 hW hcnd _
  have hval : ∀ (j : Nat) t v, Tryz.f4.params[j]? = some t → args[j]? = some v → Value.okWide Tryz.prog W .any base t v := hval0
  have hW' := hW
  obtain ⟨p, q, hA0, hV, rfl, hfz, hnd⟩ := hW
  have hA : DataW.TrodAll enc Tryz.prog W 0 (fun _ => true) true Tryz.f4.params.toList args.toList ds p := hA0
  obtain ⟨rfl, rfl⟩ := trodVars_none hV
  obtain ⟨d0, rfl⟩ : ∃ d0, ds = [d0] := by
    have hlen : ds.length = 1 := trodAll_len hA
    match ds, hlen with
    | [d0], _ => exact ⟨_, rfl⟩
  have hst : (Tryz.f4.params.toList.all fun t => Tryz.prog.readableRec t && decide (t < Tryz.prog.types.size)) = true := by kernel_rfl
  refine (law_run lTGra_ok (ts := Tryz.f4.params.toList) (by kernel_rfl) (by kernel_rfl) (by kernel_rfl) (fun a h => by obtain ⟨h1, h2⟩ := tgra_law a; exact ⟨by simp [h1], h2⟩) (fun j t v h1 h2 => hval j t v (by simpa using h1) h2) hA).mono fun e W' ⟨he, bel⟩ => ?_
  subst he
  exact ⟨_, rfl, _, _, _, [], _, [], hW', trodAll_mk1 (shut_bool Tryz.underlying4 _), args_stay laid bel hst hA, rfl, bel.frame _, fun h => by cases h⟩

theorem over : Rows.topGrammarRow.holds Tryz.pinned (OpenSpec.ofChange Rows.topGrammarSpec) :=
  OpenClaim.holds_of_wide 4 Tryz.f4 rfl rfl rfl rfl rfl rfl rfl ⟨rfl, rfl, rfl, rfl, rfl⟩ rfl rfl rfl rfl rfl (by kernel_rfl) Tryz.func4 jf
    (of_decide_eq_true (by kernel_rfl)) (by unfold Func.isWrapper; first | (rw [if_pos (by decide +kernel)]; kernel_rfl) | (rw [if_neg (by decide +kernel)]; exact ⟨rfl, rfl⟩))
    (fun os started H enc _ => lifted os started H enc)

theorem proved : Rows.TopGrammarSaid :=
  over
#print axioms proved
end Go.Proofs.YtpnjbfjomebppaaGreat.topGrammar
