/-
  The walk of (*Refusal).Error.
-/
import Derived.Test.YtbhdkkkaeabkhaaGreatDoorM7
import Derived.Test.YtbhdkkkaeabkhaaGreatDoorM9
namespace Go.Proofs.YtbhdkkkaeabkhaaGreatDoor
open Go.RowKit Go.Shelf
set_option linter.unusedSimpArgs false
set_option linter.unusedVariables false

theorem ne_of_size (b : ByteArray) (h : 0 < b.size) : b.toList.isEmpty = false := by
  rw [ByteArray.toList_eq, ← Bool.not_eq_true, List.isEmpty_iff]
  intro e
  have := len_size b
  rw [e] at this
  simp at this
  omega

/-- A world in which the refusal can be told. -/
structure RW (w : World) (g : Nat) (p y : Int) (W : World) : Prop where
  b : Below w.heap.size w W
  r : IsRef W g p y
  s : GS W
theorem RW.go {w W W' : World} {g : Nat} {p y : Int} (h : RW w g p y W) (hb : Below W.heap.size W W') : RW w g p y W' :=
  ⟨h.b.trans (hb.mono h.b.size), (hb.block g (lt_of_block h.r)).trans h.r, h.s.below hb⟩
theorem RW.draw {w W : World} {g : Nat} {p y : Int} (h : RW w g p y W) : RW w g p y W.drew := ⟨⟨h.b.os, h.b.tape, h.b.output, h.b.size, h.b.block⟩, h.r, h.s.drewN 1⟩
theorem RW.cells {w W : World} {g : Nat} {p y : Int} (h : RW w g p y W) : W.cell? ⟨g, 0, none⟩ = some (.int .i64 p) ∧ W.cell? ⟨g, 1, none⟩ = some (.int .i64 y) := ⟨cell_of h.r 0, cell_of h.r 1⟩

set_option maxHeartbeats 8000000 in
set_option maxRecDepth 100000 in
theorem lexRefErr (g : Nat) (p y : Int) (w : World) (hR : IsRef w g p y) (hG : GS w) (hp0 : -9223372036854775808 ≤ p) (hp1 : p ≤ 9223372036854775807) (hy0 : 0 ≤ y) (hy1 : y ≤ 1000000) :
    Calls Tryz.prog 42 #[.pointer (some ⟨g, 0, none⟩)] w fun e w' => (∃ s : ByteArray, e = .returned (.string s) ∧ s.toList.isEmpty = false) ∧ Below w.heap.size w w' := by
  have H0 : RW w g p y w := ⟨Below.refl _ _, hR, hG⟩
  have hw : ∀ W, RW w g p y W → Calls Tryz.prog 41 #[.agg #[.int .i64 p]] W fun e W' => e = .returned (.int .i64 p) ∧ RW w g p y W' := fun W h => (apiWhere p W).mono fun e W' h' => ⟨h'.1, h.go (grown_below h'.2)⟩
  have hil : (Lib.itoa p).length ≤ 30 := by
    unfold Lib.itoa
    split
    · rw [List.length_cons, Lib.decDigits_length]
      have := nD_le 19 p.natAbs (by omega)
      omega
    · rw [Lib.decDigits_length]
      have := nD_le 19 p.toNat (by omega)
      omega
  obtain ⟨sp, hsp⟩ : ∃ sp : ByteArray, (⟨(Lib.itoa p).toArray⟩ : ByteArray) = sp := ⟨_, rfl⟩
  have hsl : sp.size ≤ 30 := by rw [← hsp]; exact hil
  have hsl1 : (sp.size : Int) ≤ 30 := by omega
  have hi : ∀ W, RW w g p y W → Calls Tryz.prog 64 #[.int .i64 p] W fun e W' => e = .returned (.string sp) ∧ RW w g p y W' := fun W h => (Tryz.strconv_Itoa p hp0 hp1 W h.s.pow).mono fun e W' h' => ⟨by rw [← hsp]; exact h'.1, by obtain ⟨_, k, os, rfl⟩ := h'; exact h.go (Lib.below_grow _ _ (Nat.le_refl _) _ _)⟩
  have he : ∀ W, RW w g p y W → Calls Tryz.prog 65 #[.int .i64 y] W fun e W' => (∃ s, e = .returned (.string s) ∧ s.size ≤ 2000000) ∧ RW w g p y W' := fun W h => (apiErrno y hy0 hy1 W).mono fun e W' h' => ⟨h'.1, h.go h'.2⟩
  obtain ⟨c0, c1⟩ := H0.cells
  clear hR hG hsp hil
  go_enter Tryz.func42, Tryz.ntmps42
  go_wp2
  go_region_with (first
    | (go_at_call 41; refine (hw _ (by first | assumption | (exact RW.draw (by assumption)))).mono ?_; rintro e W1 ⟨rfl, H1⟩; obtain ⟨d0, d1⟩ := H1.cells)
    | (go_at_call 64; refine (hi _ (by first | assumption | (exact RW.draw (by assumption)))).mono ?_; rintro e W2 ⟨rfl, H2⟩; obtain ⟨d2, d3⟩ := H2.cells)
    | (go_at_call 65; refine (he _ (by first | assumption | (exact RW.draw (by assumption)))).mono ?_; rintro e W3 ⟨⟨s, rfl, hs3⟩, H3⟩; have hs4 : (s.size : Int) ≤ 2000000 := (by omega)))
  all_goals
    go_wp2
    go_ret
    exact ⟨⟨_, rfl, ne_of_size _ (by rw [ByteArray.size_append, ByteArray.size_append, ByteArray.size_append]; show 0 < 3 + sp.size + 2 + s.size; omega)⟩, by first | exact H3.b | exact H3.draw.b⟩

end Go.Proofs.YtbhdkkkaeabkhaaGreatDoor
