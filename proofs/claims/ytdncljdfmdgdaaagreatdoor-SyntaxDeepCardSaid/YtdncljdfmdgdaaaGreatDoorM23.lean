/-
  SyntaxDeep: the trees, and what is told of them.
-/
import Derived.Test.YtdncljdfmdgdaaaGreatDoorM8
import Derived.Test.YtdncljdfmdgdaaaGreatDoorM19
import Derived.Test.YtdncljdfmdgdaaaGreatDoorM22
import Derived.KernelRfl
namespace Go.Proofs.YtdncljdfmdgdaaaGreatDoor
open Go.RowKit Go.Shelf
set_option linter.unusedSimpArgs false
set_option linter.unusedVariables false

def dNum (n : Int) : Sx.Ex := .mk 0 1 n [] [] [] []
def dT : Nat → Sx.Ty
  | 0 => .mk 1 [] [] [] []
  | k + 1 => .mk 5 [] [] [] [dT k]
def dX (even : Bool) : Nat → Sx.Ex
  | 0 => dNum 1
  | k + 1 => if even then .mk 0 14 0 [] [] [] [dX even k] else .mk 0 16 0 [] [] [] [dNum 2, dX even k]
def dS : Nat → List Sx.St
  | 0 => [.mk 0 7 [] [] [dNum 1] [] []]
  | k + 1 => [.mk 0 5 [] [] [dNum 1] (dS k) []]
def dL : Nat → Sx.Ex
  | 0 => dNum 1
  | k + 1 => .mk 0 16 0 [] [] [] [dL k, dNum 1]

/-- What the law wants to know at a number of levels. -/
structure DeepOk (even : Bool) (K ek : Nat) : Prop where
  t : (Sx.said (Sx.rightT NM 64 (dT K)) (Sx.typ (dT K))).2 = ek
  x : (Sx.said (Sx.rightX NM 64 (dX even K)) (Sx.expr SY (dX even K))).2 = ek
  s : (Sx.said (Sx.rightSs NM 64 (dS K)) (Sx.stmts SY (dS K))).2 = ek
  d : Sx.depthL [dT K] = K + 1
  zt : decide (Sx.size (dT K) ≤ 1000000) = true
  zx : decide (Sx.sizeX (dX even K) ≤ 1000000) = true
  zs : decide (Sx.sizeSs (dS K) ≤ 1000000) = true
  lx : decide ((Sx.expr SY (dX even K)).length ≤ 900000000) = true
  ls : decide ((Sx.stmts SY (dS K)).length ≤ 900000000) = true
set_option maxRecDepth 1000000
theorem deepE62 : DeepOk true 62 0 := ⟨by kernel_rfl, by kernel_rfl, by kernel_rfl, by kernel_rfl, by kernel_rfl, by kernel_rfl, by kernel_rfl, by kernel_rfl, by kernel_rfl⟩
theorem deepE63 : DeepOk true 63 0 := ⟨by kernel_rfl, by kernel_rfl, by kernel_rfl, by kernel_rfl, by kernel_rfl, by kernel_rfl, by kernel_rfl, by kernel_rfl, by kernel_rfl⟩
theorem deepE64 : DeepOk true 64 1 := ⟨by kernel_rfl, by kernel_rfl, by kernel_rfl, by kernel_rfl, by kernel_rfl, by kernel_rfl, by kernel_rfl, by kernel_rfl, by kernel_rfl⟩
theorem deepO62 : DeepOk false 62 0 := ⟨by kernel_rfl, by kernel_rfl, by kernel_rfl, by kernel_rfl, by kernel_rfl, by kernel_rfl, by kernel_rfl, by kernel_rfl, by kernel_rfl⟩
theorem deepO63 : DeepOk false 63 0 := ⟨by kernel_rfl, by kernel_rfl, by kernel_rfl, by kernel_rfl, by kernel_rfl, by kernel_rfl, by kernel_rfl, by kernel_rfl, by kernel_rfl⟩
theorem deepO64 : DeepOk false 64 1 := ⟨by kernel_rfl, by kernel_rfl, by kernel_rfl, by kernel_rfl, by kernel_rfl, by kernel_rfl, by kernel_rfl, by kernel_rfl, by kernel_rfl⟩
theorem deepL : (Sx.said (Sx.rightX NM 64 (dL 300)) (Sx.expr SY (dL 300))).2 = 0 := by kernel_rfl
theorem deepLz : decide (Sx.sizeX (dL 300) ≤ 1000000) = true := by kernel_rfl
theorem deepLl : decide ((Sx.expr SY (dL 300)).length ≤ 900000000) = true := by kernel_rfl

end Go.Proofs.YtdncljdfmdgdaaaGreatDoor
