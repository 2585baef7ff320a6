/-
  The statement of SyntaxTypes: the row, and its card.
-/
/-
 The statement of SyntaxTypes: the row, and its card.
-/
import Derived.Test.YtdncljdfmdgdaaaGreatDoorM10
import Derived.Test.YtdncljdfmdgdaaaGreatDoorM33
import Derived.Test.YtdncljdfmdgdaaaGreatDoorM13
import Derived.Test.YtdncljdfmdgdaaaGreatDoorTie
import Derived.Test.YtdncljdfmdgdaaaGreatDoorCards
import Derived.SevenTiedAt
import Derived.ChangeMaps5
namespace Go.Proofs.YtdncljdfmdgdaaaGreatDoor
open Go.ChangeShapes Go.WideShapes Go.ChangeAt Go.ChangeMaps Go.RowKit
set_option linter.unusedSimpArgs false
set_option linter.unusedVariables false
set_option maxRecDepth 100000 in
theorem syntaxTypes_lifted (os : Os) (started : os.Started) (H : Type) (enc : TypeId × Value → H) :
  ReturnsInHanded {} Tryz.checked os 4 .any (fun w args => (Rows.syntaxTypesSpec.pre enc Tryz.prog Tryz.f4 [] false w args ∧ laidMetH Tryz.prog laidL w) ∧ sizedMet enc Tryz.prog Tryz.f4 (OpenSpec.ofChange Rows.syntaxTypesSpec) false w args)
   (Rows.syntaxTypesSpec.post enc Tryz.prog Tryz.f4 false true false false) := by
 refine returnsInHanded_of_change_and (C := Tryz.checked) (X := fun w _ => laidMetH Tryz.prog laidL w) (fun _ _ _ hh h => h.of_heap hh) ownK started (by kernel_rfl) Tryz.func4
  (ChangeSpec.witness_shaped (enc := enc) (C := Tryz.checked) (os := os) (X := fun w _ => laidMetH Tryz.prog laidL w) false (World.doorLaid Tryz.prog 400 os) #[.agg #[.int .i64 0, .string ⟨#[]⟩, .slice none 0 0, .slice none 0 0, .slice none 0 0]] 8 rfl (zhvZ os _) (by kernel_rfl) (by kernel_rfl) (by kernel_rfl) (zlpZ os _)) ?_
 intro W base args ds gs before hval0 hW _ hfit0 hL _
 have hval : ∀ (j : Nat) t v, Tryz.f4.params[j]? = some t → args[j]? = some v → Value.okWide Tryz.prog W .any base t v := hval0
 have hG := zilZ hL
 obtain ⟨p, q, hA0, hV0, he, hz⟩ := id hW
 obtain ⟨rfl, rfl⟩ := trodVars_none hV0
 have hfit : ∀ n ∈ DataW.weightsEach Tryz.prog (Tryz.f4.params.toList ++ Rows.syntaxTypesSpec.plain.varTypes Tryz.prog) (ds ++ []), n ≤ reachBytes := fun n hn => by simpa using List.all_eq_true.1 hfit0 n hn
 have hA : DataW.TrodAll enc Tryz.prog W 0 (fun _ => true) true Tryz.f4.params.toList args.toList ds p := hA0
 rw [Tryz.params4] at hA hval hfit
 obtain ⟨v0, d0, rfl, rfl, h0⟩ := trodAll_one hA
 obtain ⟨x0, r0⟩ := open_ty (hval 0 26 v0 rfl rfl) h0 (Fit.each (i := 0) hfit rfl rfl)
 refine (zlbZ x0 _ W r0 hG (NG_le hG)).mono fun e W' ⟨he, hw⟩ => ?_
 subst he
 exact ⟨_, rfl, finish rfl rfl (by kernel_rfl) rfl hW hw.b⟩
theorem syntaxTypes_holds : Rows.SyntaxTypesSaid :=
 OpenClaim.holds_of_wide 4 Tryz.f4 rfl rfl rfl rfl rfl rfl rfl ⟨rfl, rfl, rfl, rfl, rfl⟩ rfl rfl rfl rfl rfl (by kernel_rfl) Tryz.func4 (by kernel_rfl)
  (of_decide_eq_true (by kernel_rfl)) (by unfold Func.isWrapper; first | (rw [if_pos (by decide +kernel)]; kernel_rfl) | (rw [if_neg (by decide +kernel)]; exact ⟨rfl, rfl⟩))
  (fun os started H enc _ => syntaxTypes_lifted os started H enc)
theorem syntaxTypes_card : Rows.SyntaxTypesCardSaid :=
 Claim7.holds_tied_plain_at .later [] [.data, .data, .data, .sentinel, .sentinel, .listed, .data] true (true, "e4a53ab273f9f8dcd4bd76fa0e77b58e4b3e36a148cc2e279a9c0c20b8a72c19") true
  syntaxTypes_holds (fun _ h => by cases h) (by kernel_rfl) (fun _ h => by cases h) syntaxTypes_row_tie rfl ⟨rfl, rfl⟩ (by kernel_rfl) rfl
  (fun f fn hf hfn => by
   obtain rfl : f = 4 := Option.some.inj ((show Tryz.prog.funcNamed "coil/coillaw2.SyntaxTypes" = some 4 by kernel_rfl).symm.trans hf) |>.symm
   obtain rfl : fn = Tryz.f4 := (Option.some.inj (Tryz.func4.symm.trans hfn)).symm
   exact ⟨by kernel_rfl, fun j t ht => by
    rw [Tryz.params4] at ht
    have hm := Array.mem_of_getElem? ht
    have hall : ([26].all fun u => !Tryz.prog.wantsStandIn u) = true := by kernel_rfl
    exact (show Tryz.prog.wantsStandIn t = false by simpa using List.all_eq_true.1 hall t (by simpa using hm))⟩)
  (by kernel_rfl)
#print axioms syntaxTypes_card
end Go.Proofs.YtdncljdfmdgdaaaGreatDoor
