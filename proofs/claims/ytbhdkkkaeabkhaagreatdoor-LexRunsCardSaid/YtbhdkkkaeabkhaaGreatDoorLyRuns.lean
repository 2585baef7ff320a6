/-
  The statement of LexRuns.
-/
import Derived.Test.YtbhdkkkaeabkhaaGreatDoorLwFinish
import Derived.Test.YtbhdkkkaeabkhaaGreatDoorLwRuns
import Derived.Test.YtbhdkkkaeabkhaaGreatDoorTie
import Derived.Test.YtbhdkkkaeabkhaaGreatDoorCards
import Derived.SevenTiedAt
namespace Go.Proofs.YtbhdkkkaeabkhaaGreatDoor
open Go.ChangeShapes Go.WideShapes Go.ChangeAt Go.RowKit
set_option linter.unusedSimpArgs false
set_option linter.unusedVariables false

set_option maxRecDepth 100000 in
theorem lexRuns_lifted (os : Os) (started : os.Started) (H : Type) (enc : TypeId × Value → H) :
    ReturnsInHanded {} Tryz.checked os 3 .any (fun w args => (Rows.lexRunsSpec.pre enc Tryz.prog Tryz.f3 [] false w args ∧ laidMetH Tryz.prog laidL w) ∧ sizedMet enc Tryz.prog Tryz.f3 (OpenSpec.ofChange Rows.lexRunsSpec) false w args)
      (Rows.lexRunsSpec.post enc Tryz.prog Tryz.f3 false true false false) := by
  refine returnsInHanded_of_change_and (C := Tryz.checked) (X := fun w _ => laidMetH Tryz.prog laidL w) (fun _ _ _ hh h => h.of_heap hh) ownK started (by kernel_rfl) Tryz.func3
    (ChangeSpec.witness_shaped (enc := enc) (C := Tryz.checked) (os := os) (X := fun w _ => laidMetH Tryz.prog laidL w) false (World.doorLaid Tryz.prog 400 os) #[] 8 rfl (door_shaped os _) (by kernel_rfl) (by kernel_rfl) (by kernel_rfl) (door_met os _)) ?_
  intro W base args ds gs before hval0 hW _ _ hL _
  have hG := gl_of_laid hL
  obtain ⟨p, q, hA0, hV0, he, hz⟩ := id hW
  obtain ⟨rfl, rfl⟩ := trodVars_none hV0
  have hA : DataW.TrodAll enc Tryz.prog W 0 (fun _ => true) true Tryz.f3.params.toList args.toList ds p := hA0
  rw [Tryz.params3] at hA
  obtain ⟨rfl, rfl, rfl⟩ := trodAll_none hA
  refine (lawRuns W hG (NG_le hG)).mono fun e W' ⟨he, hw⟩ => ?_
  subst he
  exact ⟨_, rfl, finish rfl rfl (by kernel_rfl) rfl hW hw.b⟩

theorem lexRuns_holds : Rows.LexRunsSaid :=
  OpenClaim.holds_of_wide 3 Tryz.f3 rfl rfl rfl rfl rfl rfl rfl ⟨rfl, rfl, rfl, rfl, rfl⟩ rfl rfl rfl rfl rfl (by kernel_rfl) Tryz.func3 (by kernel_rfl)
    (of_decide_eq_true (by kernel_rfl)) (by unfold Func.isWrapper; first | (rw [if_pos (by decide +kernel)]; kernel_rfl) | (rw [if_neg (by decide +kernel)]; exact ⟨rfl, rfl⟩))
    (fun os started H enc _ => lexRuns_lifted os started H enc)

theorem lexRuns_card : Rows.LexRunsCardSaid :=
  Claim7.holds_tied_plain_at .later [] [.data, .data, .data, .handle, .sentinel, .sentinel, .listed, .data] true (true, "fe350896ebded9bdef9f7e72be8b54f2585c1617bf09ba1dc8155aeea9e60099") true
    lexRuns_holds (fun _ h => by cases h) (by kernel_rfl) (fun _ h => by cases h) lexRuns_row_tie rfl ⟨rfl, rfl⟩ (by kernel_rfl) rfl
    (fun f fn hf hfn => by
      obtain rfl : f = 3 := Option.some.inj ((show Tryz.prog.funcNamed "coil/coillaw1.LexRuns" = some 3 by kernel_rfl).symm.trans hf) |>.symm
      obtain rfl : fn = Tryz.f3 := (Option.some.inj (Tryz.func3.symm.trans hfn)).symm
      exact ⟨by kernel_rfl, fun j t ht => by
        rw [Tryz.params3] at ht
        simp at ht⟩)
    (by kernel_rfl)
#print axioms lexRuns_card

end Go.Proofs.YtbhdkkkaeabkhaaGreatDoor
