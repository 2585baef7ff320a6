/-
  SyntaxTokens: the walk, closed.
-/
import Derived.Test.YtdncljdfmdgdaaaGreatDoorM27
import Derived.Test.YtdncljdfmdgdaaaGreatDoorM28
namespace Go.Proofs.YtdncljdfmdgdaaaGreatDoor
theorem lawTokensC (l : List Sx.St) (v : Value) (t : Sx.Ty) (u : Value) (w : World) (hl : StsArg w v l) (ht : TyArg w u t) (hG : GL w) (hN : NG ≤ w.heap.size) :
    Calls Tryz.prog 10 #[v, u] w fun e w' => e = .returned (.bool true) ∧ LW w w' := lawTokens2 runsOk l v t u w hl ht hG hN
end Go.Proofs.YtdncljdfmdgdaaaGreatDoor
