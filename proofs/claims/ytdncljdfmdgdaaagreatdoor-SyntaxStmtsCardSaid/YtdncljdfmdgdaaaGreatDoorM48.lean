/-
  The laws of chapter 2, over SyntaxRuns' own.
-/
import Derived.Test.YtdncljdfmdgdaaaGreatDoorM47
set_option linter.unusedSimpArgs false
set_option linter.unusedVariables false
namespace Go.Proofs.YtdncljdfmdgdaaaGreatDoor
theorem zyhZ:RunsOk:=fun w0 hG hN=>zuiZ w0 hG hN
theorem zrqZ (l:List Sx.St) (v:Value) (w:World) (ha:StsArg w v l) (hG:GL w) (hN:NG<=w.heap.size) :
  Calls Tryz.prog 6 #[v] w fun e w'=>e=.returned (.bool true)/\LW w w':=zuhZ zyhZ l v w ha hG hN
end Go.Proofs.YtdncljdfmdgdaaaGreatDoor
