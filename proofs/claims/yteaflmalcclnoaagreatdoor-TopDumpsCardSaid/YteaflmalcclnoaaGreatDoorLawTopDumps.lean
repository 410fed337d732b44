/-
  tstate/tstatetop.TopDumps: WHATEVER THE INPUT: true; the input reads as it did: the row and its tied card. Conditions: none (the row's own listed variables).
-/
import Derived.Test.YteaflmalcclnoaaGreatDoorTie
import Derived.Test.YteaflmalcclnoaaGreatDoorCards
import Derived.ProofKit
import Derived.OpenShut
import Derived.LaidMore
import Derived.Lay
import Derived.SevenTiedAt
import Derived.Stop.Joined
import Derived.Test.YteaflmalcclnoaaGreatDoorS3D
import Derived.Test.YteaflmalcclnoaaGreatDoorLawU
namespace Go.Proofs.YteaflmalcclnoaaGreatDoor.topDumps
open Go.ChangeShapes Go.WideShapes Go.ChangeAt Go.RowKit
open Go.S3 (law_run args_stay trodAll_len)
set_option linter.unusedVariables false

theorem own : ownKnob Tryz.prog.godebug = none := by kernel_rfl
theorem lout : laidOutB Tryz.prog = true := by kernel_rfl
theorem ji : (Rows.topDumpsRow.inPlace == Tryz.prog.inPlace 3) = true := by kernel_rfl
theorem ju : (Rows.topDumpsRow.unfollowed == Tryz.prog.unfollowed 3) = true := by kernel_rfl
theorem jr : (Rows.topDumpsRow.recurses == Tryz.prog.recurses 3) = true := by kernel_rfl
theorem jn : (Rows.topDumpsRow.named == Tryz.prog.varsNamed 3) = true := by kernel_rfl
theorem jf : joinedFacts Tryz.prog 3 Tryz.f3 Rows.topDumpsSpec Rows.topDumpsRow = true := by
  unfold joinedFacts
  rw [lout, ji, ju, jr, jn]
  kernel_rfl

set_option maxRecDepth 100000 in
theorem lifted (os : Os) (started : os.Started) (H : Type) (enc : TypeId × Value → H) :
    ReturnsInHanded {} Tryz.checked os 3 .any (fun w args => (Rows.topDumpsSpec.pre enc Tryz.prog Tryz.f3 Rows.topDumpsRow.domain false w args ∧ laidMetH Tryz.prog Rows.topDumpsRow.laid w) ∧ sizedMet enc Tryz.prog Tryz.f3 (OpenSpec.ofChange Rows.topDumpsSpec) false w args)
      (Rows.topDumpsSpec.post enc Tryz.prog Tryz.f3 false true false false) := by
  refine returnsInHanded_of_change_and (C := Tryz.checked) (X := fun w _ => laidMetH Tryz.prog Rows.topDumpsRow.laid w) (fun _ _ _ hh h => h.of_heap hh) own started (by kernel_rfl) Tryz.func3
    (ChangeSpec.witness_shaped (enc := enc) (C := Tryz.checked) (os := os) (X := fun w _ => laidMetH Tryz.prog Rows.topDumpsRow.laid w) false (World.laidAll Tryz.prog os Rows.topDumpsRow.laid) #[.slice none 0 0] 8 (World.laidAll_os _ _ _)
      (World.shaped_of_ZipB (by kernel_rfl) (by kernel_rfl)) (by kernel_rfl) (by kernel_rfl) (by kernel_rfl)
      (by rw [MakeChecks.laidMetH_plain _ _ _ (by kernel_rfl)]; exact laidMet_laidAll _ (by kernel_rfl) (by kernel_rfl))) ?_
  intro W base args ds gs before hval0 hW hc _ hL _
  have hval : ∀ (j : Nat) t v, Tryz.f3.params[j]? = some t → args[j]? = some v → Value.okWide Tryz.prog W .any base t v := hval0
  have hW' := hW
  obtain ⟨p, q, hA0, hV, rfl, hfz, hnd⟩ := hW
  have hA : DataW.TrodAll enc Tryz.prog W 0 (fun _ => true) true Tryz.f3.params.toList args.toList ds p := hA0
  obtain ⟨rfl, rfl⟩ := trodVars_none hV
  obtain ⟨d0, rfl⟩ : ∃ d0, ds = [d0] := by
    have hlen : ds.length = 1 := trodAll_len hA
    match ds, hlen with
    | [d0], _ => exact ⟨_, rfl⟩
  have hst : (Tryz.f3.params.toList.all fun t => Tryz.prog.readableRec t && decide (t < Tryz.prog.types.size)) = true := by kernel_rfl
  refine (law_run lTDmp_ok (ts := Tryz.f3.params.toList) (by kernel_rfl) (by kernel_rfl) (by kernel_rfl) (fun a h => by obtain ⟨h1, h2⟩ := tdmp_law a; exact ⟨by simp [h1], h2⟩) (fun j t v h1 h2 => hval j t v (by simpa using h1) h2) hA).mono fun e W' ⟨he, bel⟩ => ?_
  subst he
  exact ⟨_, rfl, _, _, _, [], _, [], hW', trodAll_mk1 (shut_bool Tryz.underlying4 _), args_stay lout bel hst hA, rfl, bel.frame _, fun h => by cases h⟩

theorem over : Rows.topDumpsRow.holds Tryz.pinned (OpenSpec.ofChange Rows.topDumpsSpec) :=
  OpenClaim.holds_of_wide 3 Tryz.f3 rfl rfl rfl rfl rfl rfl rfl ⟨rfl, rfl, rfl, rfl, rfl⟩ rfl rfl rfl rfl rfl (by kernel_rfl) Tryz.func3 jf
    (of_decide_eq_true (by kernel_rfl)) (by unfold Func.isWrapper; first | (rw [if_pos (by decide +kernel)]; kernel_rfl) | (rw [if_neg (by decide +kernel)]; exact ⟨rfl, rfl⟩))
    (fun os started H enc _ => lifted os started H enc)

theorem proved : Rows.TopDumpsCardSaid :=
  Claim7.holds_tied_plain_at .later [] [.data, .pinned] true (true, "16e8eda205b6bba9c49a4c0aa56507a6f3d3e4e7baa564682ec1f65159489a46") false over (fun _ h => by cases h) (by kernel_rfl) (fun _ h => by cases h) topDumps_row_tie rfl ⟨rfl, rfl⟩ (by kernel_rfl) rfl
    (fun f fn hf hfn => by
      obtain rfl : f = 3 := Option.some.inj ((show Tryz.prog.funcNamed "tstate/tstatetop.TopDumps" = some 3 by kernel_rfl).symm.trans hf) |>.symm
      obtain rfl : fn = Tryz.f3 := (Option.some.inj (Tryz.func3.symm.trans hfn)).symm
      exact ⟨by kernel_rfl, fun j t ht => by
        rw [Tryz.params3] at ht
        have hm : t ∈ [22] := by simpa using Array.mem_of_getElem? ht
        have hall : ([22].all fun u => !Tryz.prog.wantsStandIn u) = true := by kernel_rfl
        exact (show Tryz.prog.wantsStandIn t = false by simpa using List.all_eq_true.1 hall t hm)⟩)
    (by kernel_rfl)
#print axioms proved
end Go.Proofs.YteaflmalcclnoaaGreatDoor.topDumps
