/-
  The walks of package lex's functions of one byte.
-/
import Derived.Test.YtbhdkkkaeabkhaaGreatDoorProg
import Derived.Test.YtbhdkkkaeabkhaaGreatDoorLxLaws
import Derived.WalkKit
import Derived.WalkLawsBesides
import Derived.WalkSpells
namespace Go.Proofs.YtbhdkkkaeabkhaaGreatDoor
open Go.RowKit

set_option maxHeartbeats 400000

theorem ret_bool {x y : Bool} (h : x = y) : Ending.returned (.bool x) = .returned (.bool y) := by rw [h]

theorem lexSmall (b : UInt8) (w : World) : Calls Tryz.prog 99 #[.int .u8 (b.toNat : Int)] w fun e w' => e = .returned (.bool (Lx.small b)) ∧ w = w' := by
  go_enter Tryz.func99, Tryz.ntmps99
  go_wp2
  all_goals
    go_ret
    refine ⟨ret_bool ?_, rfl⟩
    rw [Bool.eq_iff_iff]
    simp [Lx.small]
    omega

theorem lexGreat (b : UInt8) (w : World) : Calls Tryz.prog 100 #[.int .u8 (b.toNat : Int)] w fun e w' => e = .returned (.bool (Lx.great b)) ∧ w = w' := by
  go_enter Tryz.func100, Tryz.ntmps100
  go_wp2
  all_goals
    go_ret
    refine ⟨ret_bool ?_, rfl⟩
    rw [Bool.eq_iff_iff]
    simp [Lx.great]
    omega

theorem lexDigit (b : UInt8) (w : World) : Calls Tryz.prog 85 #[.int .u8 (b.toNat : Int)] w fun e w' => e = .returned (.bool (Lx.digit b)) ∧ w = w' := by
  go_enter Tryz.func85, Tryz.ntmps85
  go_wp2
  all_goals
    go_ret
    refine ⟨ret_bool ?_, rfl⟩
    rw [Bool.eq_iff_iff]
    simp [Lx.digit]
    omega

theorem lexBlank (b : UInt8) (w : World) : Calls Tryz.prog 82 #[.int .u8 (b.toNat : Int)] w fun e w' => e = .returned (.bool (Lx.blank b)) ∧ w = w' := by
  go_enter Tryz.func82, Tryz.ntmps82
  go_wp2
  all_goals
    go_ret
    refine ⟨ret_bool ?_, rfl⟩
    rw [Bool.eq_iff_iff]
    simp [Lx.blank]
    omega

theorem lexLetter (b : UInt8) (w : World) : Calls Tryz.prog 84 #[.int .u8 (b.toNat : Int)] w fun e w' => e = .returned (.bool (Lx.letter b)) ∧ w = w' := by
  go_enter Tryz.func84, Tryz.ntmps84
  go_wp2_with (first | (go_at_call 99; refine (lexSmall _ _).mono ?_; rintro e w' ⟨rfl, rfl⟩) | (go_at_call 100; refine (lexGreat _ _).mono ?_; rintro e w' ⟨rfl, rfl⟩))
  all_goals
    go_ret
    refine ⟨ret_bool ?_, rfl⟩
    simp [Lx.letter, *]

theorem lexWithin (b : UInt8) (w : World) : Calls Tryz.prog 102 #[.int .u8 (b.toNat : Int)] w fun e w' => e = .returned (.bool (Lx.within b)) ∧ w = w' := by
  go_enter Tryz.func102, Tryz.ntmps102
  go_wp2_with (first | (go_at_call 84; refine (lexLetter _ _).mono ?_; rintro e w' ⟨rfl, rfl⟩) | (go_at_call 85; refine (lexDigit _ _).mono ?_; rintro e w' ⟨rfl, rfl⟩))
  all_goals
    go_ret
    refine ⟨ret_bool ?_, rfl⟩
    rw [Bool.eq_iff_iff]
    simp [Lx.within, *]
    try omega

end Go.Proofs.YtbhdkkkaeabkhaaGreatDoor
