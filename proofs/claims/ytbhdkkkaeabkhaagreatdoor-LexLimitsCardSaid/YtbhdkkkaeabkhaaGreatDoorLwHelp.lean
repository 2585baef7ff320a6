/-
  coillaw1's small helpers.
-/
import Derived.Test.YtbhdkkkaeabkhaaGreatDoorLxJoin
namespace Go.Proofs.YtbhdkkkaeabkhaaGreatDoor
open Go.RowKit Go.Shelf
set_option linter.unusedSimpArgs false
set_option linter.unusedVariables false

set_option maxHeartbeats 2000000 in
theorem lawToken (k a n : Int) (s : ByteArray) (w : World) : Calls Tryz.prog 15 #[.int .i64 k, .int .i64 a, .int .i64 n, .string s] w fun e w' => e = .returned (.agg #[.int .i64 a, .int .i64 k, .string s, .int .i64 n]) ∧ w.grownBy w' none := by
  go_enter Tryz.func15, Tryz.ntmps15
  go_wp2
  refine bodyPost_ret (v := .agg #[.int .i64 a, .int .i64 k, .string s, .int .i64 n]) (by simp [results, Tryz.results15, go_sem]) rfl ?_
  exact ⟨rfl, (World.grownBy_alloc _ _ _).trans (World.grownBy_alloc _ _ _)⟩

end Go.Proofs.YtbhdkkkaeabkhaaGreatDoor
