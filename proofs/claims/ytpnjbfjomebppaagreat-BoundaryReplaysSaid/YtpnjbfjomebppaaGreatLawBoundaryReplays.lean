import Derived.Test.YtpnjbfjomebppaaGreatRows
import Derived.Test.YtpnjbfjomebppaaGreatS3D
import Derived.Test.YtpnjbfjomebppaaGreatS3Sized
import Derived.Test.YtpnjbfjomebppaaGreatLawR
namespace Go.Proofs.YtpnjbfjomebppaaGreat.boundaryReplays
open Go.ChangeShapes Go.WideShapes Go.ChangeAt Go.RowKit
open Go.S3 (law_run_q slot1_few args_stay trodAll_len)
set_option linter.unusedVariables false

theorem own : ownKnob Tryz.prog.godebug = none := by kernel_rfl
theorem laid : laidOutB Tryz.prog = true := by kernel_rfl
theorem ji : (Rows.boundaryReplaysRow.inPlace == Tryz.prog.inPlace 6) = true := by kernel_rfl
theorem ju : (Rows.boundaryReplaysRow.unfollowed == Tryz.prog.unfollowed 6) = true := by kernel_rfl
theorem jr : (Rows.boundaryReplaysRow.recurses == Tryz.prog.recurses 6) = true := by kernel_rfl
theorem jn : (Rows.boundaryReplaysRow.named == Tryz.prog.varsNamed 6) = true := by kernel_rfl
theorem jf : joinedFacts Tryz.prog 6 Tryz.f6 Rows.boundaryReplaysSpec Rows.boundaryReplaysRow = true := by
  unfold joinedFacts
  rw [laid, ji, ju, jr, jn]
  kernel_rfl

theorem par : Tryz.f6.params.toList = [38, 30, 26, 23] := by kernel_rfl
theorem bts : Tryz.prog.bytesOf 77 = 64 := by kernel_rfl
set_option maxRecDepth 100000 in
theorem lifted (os : Os) (started : os.Started) (H : Type) (enc : TypeId × Value → H) :
    ReturnsInHanded {} Tryz.checked os 6 .any (Rows.boundaryReplaysSpec.pre6 enc Tryz.prog Tryz.f6 Rows.boundaryReplaysRow.domain false) (Rows.boundaryReplaysSpec.post enc Tryz.prog Tryz.f6 false true false false) := by
  refine returnsInHanded_of_change_sized (C := Tryz.checked) own started (by kernel_rfl) Tryz.func6
    (ChangeSpec.witness6 (enc := enc) (C := Tryz.checked) false ⟨#[], #[.agg #[.int .i64 0, .int .u8 0, .int .u8 0, .int .u8 0, .int .u8 0, .int .u8 0, .int .u8 0, .int .u8 0, .bool false, .bool false, .bool false, .bool false, .bool false, .bool false, .bool false, .int .u16 0, .int .u16 0, .bool false, .bool false, .bool false, .int .u8 0, .bool false, .bool false, .bool false, .bool false, .bool false, .bool false, .bool false], .slice none 0 0, .slice none 0 0, .slice none 0 0], []⟩ 8 (by kernel_rfl) (by kernel_rfl) (by kernel_rfl) (by kernel_rfl)) ?_
  intro W base args ds gs before hval0 hW hcnd hsz0 _
  have hval : ∀ (j : Nat) t v, Tryz.f6.params[j]? = some t → args[j]? = some v → Value.okWide Tryz.prog W .any base t v := hval0
  have hW' := hW
  obtain ⟨p, q, hA0, hV, rfl, hfz, hnd⟩ := hW
  have hA : DataW.TrodAll enc Tryz.prog W 0 (fun _ => true) true Tryz.f6.params.toList args.toList ds p := hA0
  obtain ⟨rfl, rfl⟩ := trodVars_none hV
  obtain ⟨d0, d1, d2, d3, rfl⟩ : ∃ d0 d1 d2 d3, ds = [d0, d1, d2, d3] := by
    have hlen : ds.length = 4 := trodAll_len hA
    match ds, hlen with
    | [d0, d1, d2, d3], _ => exact ⟨_, _, _, _, rfl⟩
  have hst : (Tryz.f6.params.toList.all fun t => Tryz.prog.readableRec t && decide (t < Tryz.prog.types.size)) = true := by kernel_rfl
  have hsz : (DataW.weightsEach Tryz.prog (Tryz.f6.params.toList ++ Rows.boundaryReplaysSpec.plain.varTypes Tryz.prog) ([d0, d1, d2, d3] ++ [])).all (· ≤ reachBytes) = true := hsz0
  have hA2 := hA
  rw [par] at hA2 hsz
  refine (law_run_q lRepl2_ok (ts := Tryz.f6.params.toList) (by kernel_rfl) (by kernel_rfl) (by kernel_rfl) (fun a h q => repl2_hall a h q) (fun j t v h1 h2 => hval j t v (by simpa using h1) h2) hA (fun a hr => by have hq := slot1_few hA2 Tryz.underlying30 hsz hr; rw [bts] at hq; exact hq)).mono fun e W' ⟨he, bel⟩ => ?_
  subst he
  exact ⟨_, rfl, _, _, _, [], _, [], hW', trodAll_mk1 (shut_bool Tryz.underlying4 _), args_stay laid bel hst hA, rfl, bel.frame _, fun h => by cases h⟩

theorem over : Rows.boundaryReplaysRow.holds Tryz.pinned (OpenSpec.ofChange Rows.boundaryReplaysSpec) :=
  OpenClaim.holds_of_wide 6 Tryz.f6 rfl rfl rfl rfl rfl rfl rfl ⟨rfl, rfl, rfl, rfl, rfl⟩ rfl rfl rfl rfl rfl (by kernel_rfl) Tryz.func6 jf
    (of_decide_eq_true (by kernel_rfl)) (by unfold Func.isWrapper; first | (rw [if_pos (by decide +kernel)]; kernel_rfl) | (rw [if_neg (by decide +kernel)]; exact ⟨rfl, rfl⟩))
    (fun os started H enc _ => lifted os started H enc)

theorem proved : Rows.BoundaryReplaysSaid :=
  over
#print axioms proved
end Go.Proofs.YtpnjbfjomebppaaGreat.boundaryReplays
