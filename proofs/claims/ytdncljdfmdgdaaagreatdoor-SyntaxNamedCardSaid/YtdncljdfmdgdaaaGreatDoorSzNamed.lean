/-
  The statement of SyntaxNamed: the row, and its card.
-/
import Derived.Test.YtdncljdfmdgdaaaGreatDoorM10
import Derived.Test.YtdncljdfmdgdaaaGreatDoorM26
import Derived.Test.YtdncljdfmdgdaaaGreatDoorM13
import Derived.Test.YtdncljdfmdgdaaaGreatDoorTie
import Derived.Test.YtdncljdfmdgdaaaGreatDoorCards
import Derived.SevenTiedAt
import Derived.ChangeMaps5
namespace Go.Proofs.YtdncljdfmdgdaaaGreatDoor
open Go.ChangeShapes Go.WideShapes Go.ChangeAt Go.ChangeMaps Go.RowKit
set_option linter.unusedSimpArgs false
set_option linter.unusedVariables false

set_option maxRecDepth 100000 in
theorem syntaxNamed_lifted (os : Os) (started : os.Started) (H : Type) (enc : TypeId × Value → H) :
    ReturnsInHanded {} Tryz.checked os 9 .any (fun w args => (Rows.syntaxNamedSpec.pre enc Tryz.prog Tryz.f9 [] false w args ∧ laidMetH Tryz.prog laidL w) ∧ sizedMet enc Tryz.prog Tryz.f9 (OpenSpec.ofChange Rows.syntaxNamedSpec) false w args)
      (Rows.syntaxNamedSpec.post enc Tryz.prog Tryz.f9 false true false false) := by
  refine returnsInHanded_of_change_and (C := Tryz.checked) (X := fun w _ => laidMetH Tryz.prog laidL w) (fun _ _ _ hh h => h.of_heap hh) ownK started (by kernel_rfl) Tryz.func9
    (ChangeSpec.witness_shaped (enc := enc) (C := Tryz.checked) (os := os) (X := fun w _ => laidMetH Tryz.prog laidL w) false (World.doorLaid Tryz.prog 400 os) #[.agg #[.int .i64 0, .string ⟨#[]⟩, .slice none 0 0, .slice none 0 0, .slice none 0 0], .agg #[.int .i64 0, .string ⟨#[]⟩, .slice none 0 0, .slice none 0 0, .slice none 0 0]] 8 rfl (door_shaped os _) (by kernel_rfl) (by kernel_rfl) (by kernel_rfl) (door_met os _)) ?_
  intro W base args ds gs before hval0 hW _ hfit0 hL _
  have hval : ∀ (j : Nat) t v, Tryz.f9.params[j]? = some t → args[j]? = some v → Value.okWide Tryz.prog W .any base t v := hval0
  have hG := gl_of_laid hL
  obtain ⟨p, q, hA0, hV0, he, hz⟩ := id hW
  obtain ⟨rfl, rfl⟩ := trodVars_none hV0
  have hfit : ∀ n ∈ DataW.weightsEach Tryz.prog (Tryz.f9.params.toList ++ Rows.syntaxNamedSpec.plain.varTypes Tryz.prog) (ds ++ []), n ≤ reachBytes := fun n hn => by simpa using List.all_eq_true.1 hfit0 n hn
  have hA : DataW.TrodAll enc Tryz.prog W 0 (fun _ => true) true Tryz.f9.params.toList args.toList ds p := hA0
  rw [Tryz.params9] at hA hval hfit
  obtain ⟨v0, v1, d0, d1, p0, p1, rfl, rfl, rfl, h0, h1⟩ := trodAll_two hA
  obtain ⟨x0, r0⟩ := open_ty (hval 0 26 v0 rfl rfl) h0 (Fit.each (i := 0) hfit rfl rfl)
  obtain ⟨x1, r1⟩ := open_ty (hval 1 26 v1 rfl rfl) h1 (Fit.each (i := 1) hfit rfl rfl)
  refine (lawNamedC x0 _ x1 _ W r0 r1 hG (NG_le hG)).mono fun e W' ⟨he, hw⟩ => ?_
  subst he
  exact ⟨_, rfl, finish rfl rfl (by kernel_rfl) rfl hW hw.b⟩

theorem syntaxNamed_holds : Rows.SyntaxNamedSaid :=
  OpenClaim.holds_of_wide 9 Tryz.f9 rfl rfl rfl rfl rfl rfl rfl ⟨rfl, rfl, rfl, rfl, rfl⟩ rfl rfl rfl rfl rfl (by kernel_rfl) Tryz.func9 (by kernel_rfl)
    (of_decide_eq_true (by kernel_rfl)) (by unfold Func.isWrapper; first | (rw [if_pos (by decide +kernel)]; kernel_rfl) | (rw [if_neg (by decide +kernel)]; exact ⟨rfl, rfl⟩))
    (fun os started H enc _ => syntaxNamed_lifted os started H enc)

theorem syntaxNamed_card : Rows.SyntaxNamedCardSaid :=
  Claim7.holds_tied_plain_at .later [] [.data, .data, .data, .sentinel, .sentinel, .listed, .data] true (true, "e4a53ab273f9f8dcd4bd76fa0e77b58e4b3e36a148cc2e279a9c0c20b8a72c19") true
    syntaxNamed_holds (fun _ h => by cases h) (by kernel_rfl) (fun _ h => by cases h) syntaxNamed_row_tie rfl ⟨rfl, rfl⟩ (by kernel_rfl) rfl
    (fun f fn hf hfn => by
      obtain rfl : f = 9 := Option.some.inj ((show Tryz.prog.funcNamed "coil/coillaw2.SyntaxNamed" = some 9 by kernel_rfl).symm.trans hf) |>.symm
      obtain rfl : fn = Tryz.f9 := (Option.some.inj (Tryz.func9.symm.trans hfn)).symm
      exact ⟨by kernel_rfl, fun j t ht => by
        rw [Tryz.params9] at ht
        have hm := Array.mem_of_getElem? ht
        have hall : ([26, 26].all fun u => !Tryz.prog.wantsStandIn u) = true := by kernel_rfl
        exact (show Tryz.prog.wantsStandIn t = false by simpa using List.all_eq_true.1 hall t (by simpa using hm))⟩)
    (by kernel_rfl)
#print axioms syntaxNamed_card

end Go.Proofs.YtdncljdfmdgdaaaGreatDoor
