/-
  The walk of (*Refusal).Unwrap.
-/
import Derived.Test.YtbhdkkkaeabkhaaGreatDoorLxCut
namespace Go.Proofs.YtbhdkkkaeabkhaaGreatDoor
open Go.RowKit Go.Shelf

theorem lexUnwrap (g : Nat) (p y : Int) (w : World) (hR : IsRef w g p y) :
    Calls Tryz.prog 148 #[.pointer (some ⟨g, 0, none⟩)] w fun e w' => e = .returned (.iface 36 (.int .i64 y)) ∧ w' = w := by
  have c1 : w.cell? ⟨g, 1, none⟩ = some (.int .i64 y) := cell_of hR 1
  clear hR
  go_enter Tryz.func148, Tryz.ntmps148
  go_wp2
  go_ret
  exact ⟨rfl, rfl⟩

end Go.Proofs.YtbhdkkkaeabkhaaGreatDoor
