/-
  The laws of chapter 2, over SyntaxRuns' own.
-/
import Derived.Test.YtdncljdfmdgdaaaGreatDoorM1
import Derived.Test.YtdncljdfmdgdaaaGreatDoorM46
import Derived.Test.YtdncljdfmdgdaaaGreatDoorM27
import Derived.Test.YtdncljdfmdgdaaaGreatDoorM45
set_option linter.unusedSimpArgs false
set_option linter.unusedVariables false
namespace Go.Proofs.YtdncljdfmdgdaaaGreatDoor
theorem zwpZ:RunsOk:=fun w0 hG hN=>zsxZ w0 hG hN
theorem zqkZ (a:Sx.Ex) (v:Value) (w:World) (ha:ExArg w v a) (hG:GL w) (hN:NG≤w.heap.size) :
  Calls Tryz.prog 5 #[v] w fun e w'=>e=.returned (.bool true)∧LW w w':=zswZ zwpZ a v w ha hG hN
end Go.Proofs.YtdncljdfmdgdaaaGreatDoor
