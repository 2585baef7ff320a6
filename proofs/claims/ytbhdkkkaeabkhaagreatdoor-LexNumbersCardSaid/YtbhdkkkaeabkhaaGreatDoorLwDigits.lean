/-
  The walk of coilref1.Digits.
-/
import Derived.Test.YtbhdkkkaeabkhaaGreatDoorLwFew
import Derived.Deep.RegionHeld3
import Derived.BigRegion
namespace Go.Proofs.YtbhdkkkaeabkhaaGreatDoor
open Go.RowKit Go.Shelf
set_option linter.unusedSimpArgs false
set_option linter.unusedVariables false

theorem strOne (W : World) (c : UInt8) : (convert 66 9 (.slice (some ⟨W.heap.size, 0, none⟩) 1 1)).run Tryz.prog (W.alloc (.cells #[.int .u8 (c.toNat : Int)] 5)) = .ok (.string ⟨#[c]⟩) (W.alloc (.cells #[.int .u8 (c.toNat : Int)] 5)) :=
  strByte (ownNew W W.heap.size c (Nat.le_refl _))

theorem strBack {X W : World} {c : UInt8} (h : LW (X.alloc (.cells #[.int .u8 (c.toNat : Int)] 5)).drew W) : (convert 66 9 (.slice (some ⟨X.heap.size, 0, none⟩) 1 1)).run Tryz.prog W = .ok (.string ⟨#[c]⟩) W := by
  refine strByte (base := X.heap.size) (l := [c]) ⟨rfl, .inr ⟨X.heap.size, 1, #[.int .u8 (c.toNat : Int)], rfl, Nat.le_refl _, ?_, Nat.le_refl _, by unfold maxLen; omega, rfl, rfl⟩⟩
  exact (h.b.block _ (by show X.heap.size < (X.alloc _).heap.size; simp)).trans (heap_alloc_new X _)
set_option maxRecDepth 100000 in
set_option maxHeartbeats 4000000 in
theorem refDigits : ∀ (n : Nat) (w : World), n ≤ 9223372036854775807 → GL w → NG ≤ w.heap.size →
    Calls Tryz.prog 37 #[.int .i64 n] w fun e w' => e = .returned (.string ⟨(Lib.decDigits n).toArray⟩) ∧ LW w w' := by
  intro n
  induction n using Nat.strongRecOn with
  | _ n ih =>
    intro w hn hG hN
    have H0 := LW.refl hG hN
    by_cases hlt : n < 10
    · have hi : (n : Int) < 10 := by omega
      have hd : Lib.decDigits n = [UInt8.ofNat (48 + n)] := Lib.decDigits_one hlt
      obtain ⟨c, hc⟩ : ∃ c : UInt8, UInt8.ofNat (48 + n) = c := ⟨_, rfl⟩
      have hcn : (48 : Int) + (n : Int) = (c.toNat : Int) := by
        rw [← hc, UInt8.toNat_ofNat']
        omega
      rw [hd, hc]
      have hso := fun W => strOne W c
      clear hd hc ih
      go_enter Tryz.func37, Tryz.ntmps37
      go_wp2
      go_ret
      exact ⟨rfl, H0.alloc _⟩
    · have hi : ¬ (n : Int) < 10 := by omega
      have hd := Lx.decDigits_step n (by omega)
      obtain ⟨c, hc⟩ : ∃ c : UInt8, UInt8.ofNat (48 + n % 10) = c := ⟨_, rfl⟩
      have hcn : (48 : Int) + (n : Int) % 10 = (c.toNat : Int) := by
        rw [← hc, UInt8.toNat_ofNat']
        omega
      have hmod : (n : Int).tmod 10 = (n : Int) % 10 := by rw [Int.tmod_eq_emod_of_nonneg (by omega)]
      have hcl : c.toNat < 256 := c.toNat_lt
      have hw2 : IntKind.i64.wrap (c.toNat : Int) = (c.toNat : Int) := (by rw [IntKind.wrap_i64]; omega)
      have hw3 : IntKind.u8.wrap (c.toNat : Int) = (c.toNat : Int) := (by rw [IntKind.wrap_u8]; omega)
      have hlen : (Lib.decDigits (n / 10)).length ≤ 20 := by
        rw [Lib.decDigits_length]
        have := nD_le 19 (n / 10) (by omega)
        omega
      have hrec2 : ∀ W, LW w W → Calls Tryz.prog 37 #[.int .i64 ((n / 10 : Nat) : Int)] W fun e W' => e = .returned (.string ⟨(Lib.decDigits (n / 10)).toArray⟩) ∧ LW W W' := fun W h => ih (n / 10) (by omega) W (by omega) h.g h.n
      obtain ⟨B, hB⟩ : ∃ B : ByteArray, (⟨(Lib.decDigits (n / 10)).toArray⟩ : ByteArray) = B := ⟨_, rfl⟩
      have hBs : (B.size : Int) ≤ 20 := by
        rw [← hB]
        show (((Lib.decDigits (n / 10)).length : Nat) : Int) ≤ 20
        omega
      have hres : (⟨(Lib.decDigits n).toArray⟩ : ByteArray) = B ++ ⟨#[c]⟩ := by
        rw [hd, hc, ← hB]
        apply ByteArray.ext
        rw [ByteArray.data_append]
        simp
      rw [hres]
      rw [hB] at hrec2
      have hso := fun W => strOne W c
      obtain ⟨k, hk⟩ : ∃ k, n / 10 = k := ⟨_, rfl⟩
      have hw1 : IntKind.i64.wrap ((n : Int) / 10) = (k : Int) := by rw [IntKind.wrap_i64]; omega
      rw [hk] at hrec2
      clear hk
      clear hd hc ih hlen hB hres
      go_enter Tryz.func37, Tryz.ntmps37
      go_wp2
      have hso1 : (convert 66 9 (.slice (some ⟨w.heap.size, 0, none⟩) 1 1)).run Tryz.prog (w.alloc (.cells #[.int .u8 (c.toNat : Int)] 5)).drew = .ok (.string ⟨#[c]⟩) (w.alloc (.cells #[.int .u8 (c.toNat : Int)] 5)).drew := strOne w.drew c
      have HD : LW w w.drew := H0.drewN 1
      have HA : LW w (w.alloc (.cells #[.int .u8 (c.toNat : Int)] 5)).drew := HD.alloc _
      have hrD := hrec2 _ HD
      have hrA := hrec2 _ HA
      clear hrec2
      go_region_with (first
        | (go_at_call 37; with_reducible refine hrD.mono ?_; rintro e W5 ⟨rfl, h5⟩; have h6 := HD.trans h5)
        | (go_at_call 37; with_reducible refine hrA.mono ?_; rintro e W5 ⟨rfl, h5⟩; have h6 := HA.trans h5; have hcv := strBack (X := w) h5))
      all_goals
        go_wp2
        go_ret
        exact ⟨rfl, by first | exact h6 | exact h6.alloc _⟩

end Go.Proofs.YtbhdkkkaeabkhaaGreatDoor
