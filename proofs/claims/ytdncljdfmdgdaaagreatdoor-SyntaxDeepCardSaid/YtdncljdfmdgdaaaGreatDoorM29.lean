/-
  SyntaxDeep: the walk, closed.
-/
import Derived.Test.YtdncljdfmdgdaaaGreatDoorM27
import Derived.Test.YtdncljdfmdgdaaaGreatDoorM28
namespace Go.Proofs.YtdncljdfmdgdaaaGreatDoor
theorem lawDeepC (n : Int) (hn0 : -9223372036854775808 ≤ n) (hn1 : n ≤ 9223372036854775807) (kd : Int) (hk0 : -9223372036854775808 ≤ kd) (hk1 : kd ≤ 9223372036854775807) (w : World) (hG : GL w) (hN : NG ≤ w.heap.size) :
    Calls Tryz.prog 7 #[.int .i64 n, .int .i64 kd] w fun e w' => e = .returned (.bool true) ∧ LW w w' := lawDeep runsOk n hn0 hn1 kd hk0 hk1 w hG hN
end Go.Proofs.YtdncljdfmdgdaaaGreatDoor
