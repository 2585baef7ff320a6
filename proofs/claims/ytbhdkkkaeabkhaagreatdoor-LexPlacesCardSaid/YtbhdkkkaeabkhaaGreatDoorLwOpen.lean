/-
  What a law's arguments are, out of the row's condition.
-/
import Derived.Test.YtbhdkkkaeabkhaaGreatDoorLxJoin
import Derived.ChangeMaps5
import Derived.OpenShut
import Derived.ProofKit
namespace Go.Proofs.YtbhdkkkaeabkhaaGreatDoor
open Go.ChangeShapes Go.WideShapes Go.ChangeAt Go.RowKit
set_option linter.unusedSimpArgs false
set_option linter.unusedVariables false

theorem int_bounds {n : Int} (h : (Lit.int .i64 n).wf = true) : -9223372036854775808 ≤ n ∧ n ≤ 9223372036854775807 := by
  simp only [Lit.wf, Bool.and_eq_true, decide_eq_true_eq] at h
  exact h

end Go.Proofs.YtbhdkkkaeabkhaaGreatDoor
