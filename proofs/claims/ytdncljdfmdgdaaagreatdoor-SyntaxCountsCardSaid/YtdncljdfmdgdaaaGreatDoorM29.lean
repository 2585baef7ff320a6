/-
  SyntaxCounts: the walk, closed.
-/
import Derived.Test.YtdncljdfmdgdaaaGreatDoorM23
import Derived.Test.YtdncljdfmdgdaaaGreatDoorM28
namespace Go.Proofs.YtdncljdfmdgdaaaGreatDoor
theorem lawCountsC (a : Sx.Ty) (v : Value) (b : Sx.Ty) (u : Value) (w : World) (ha : TyArg w v a) (hb : TyArg w u b) (hG : GL w) (hN : NG ≤ w.heap.size) :
    Calls Tryz.prog 8 #[v, u] w fun e w' => e = .returned (.bool true) ∧ LW w w' := lawCounts runsOk a v b u w ha hb hG hN
end Go.Proofs.YtdncljdfmdgdaaaGreatDoor
