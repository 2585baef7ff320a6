/-
  Small helpers of the laws: few; LexRuns as the last test of each.
-/
import Derived.Test.YtbhdkkkaeabkhaaGreatDoorLwRuns
import Derived.Test.YtbhdkkkaeabkhaaGreatDoorLxMore
namespace Go.Proofs.YtbhdkkkaeabkhaaGreatDoor
open Go.RowKit Go.Shelf
set_option linter.unusedSimpArgs false
set_option linter.unusedVariables false

theorem lwRuns {w W : World} (h : LW w W) : Calls Tryz.prog 3 #[] W fun e W' => e = .returned (.bool true) ∧ LW w W' :=
  (lawRuns W h.g h.n).mono fun e W' h' => ⟨h'.1, h.go h'.2.b⟩

theorem lawFew (s : ByteArray) (n : Nat) (hn : n ≤ 1000000) (w : World) : Calls Tryz.prog 22 #[.string s, .int .i64 n] w fun e w' => ∃ B : ByteArray, e = .returned (.string B) ∧ B.data.toList = s.data.toList.take n ∧ B.size ≤ n ∧ w' = w := by
  have h0 : (0 : Int) ≤ (n : Int) := by omega
  by_cases hlt : n < s.size
  · have hi : (n : Int) < (s.size : Int) := by omega
    have hi2 : (n : Int) ≤ (s.size : Int) := by omega
    go_enter Tryz.func22, Tryz.ntmps22
    go_wp2
    go_ret
    have e : (s.extract 0 n).data.toList = s.data.toList.take n := by rw [Lib.extract_data]; simp
    exact ⟨_, rfl, e, by rw [← len_size, e, List.length_take]; omega, rfl⟩
  · have hi : ¬ (n : Int) < (s.size : Int) := by omega
    go_enter Tryz.func22, Tryz.ntmps22
    go_wp2
    go_ret
    exact ⟨_, rfl, by rw [List.take_of_length_le (by rw [len_size]; omega)], by omega, rfl⟩

theorem lwFew {w W : World} (h : LW w W) (s : ByteArray) (n : Nat) (hn : n ≤ 1000000) : Calls Tryz.prog 22 #[.string s, .int .i64 n] W fun e W' => ∃ B : ByteArray, e = .returned (.string B) ∧ B.data.toList = s.data.toList.take n ∧ B.size ≤ n ∧ LW w W' :=
  (lawFew s n hn W).mono fun e W' ⟨B, h1, h2, h3, h4⟩ => ⟨B, h1, h2, h3, by rw [h4]; exact h⟩
theorem LW.trans {w W X : World} (h : LW w W) (h' : LW W X) : LW w X := ⟨h.b.trans (h'.b.mono h.b.size), h'.g, h'.n⟩
theorem LW.self {w W : World} (h : LW w W) : LW W W := LW.refl h.g h.n
/-- A text that is cut without a fault. -/
theorem lwTokensOk {w W : World} (h : LW w W) (s : ByteArray) (hs : s.size ≤ 140737488351232) {ts : List Lx.Tok} (hT : Lx.toks s.data.toList = (ts, none)) :
    Calls Tryz.prog 16 #[.string s] W fun e W' => ∃ v, e = .returned (.tuple #[v, .nilIface]) ∧ LW w W' ∧ ToksIn W' v ts := by
  refine (lwTokens h s hs).mono ?_
  rw [hT]
  rintro e W' ⟨h1, h2, h3, v, rfl, hr⟩
  exact ⟨v, rfl, h1, row_toks (w' := W') hr⟩
/-- .. with a fault. -/
theorem lwTokensBad {w W : World} (h : LW w W) (s : ByteArray) (hs : s.size ≤ 140737488351232) {ts : List Lx.Tok} {y x : Nat} (hT : Lx.toks s.data.toList = (ts, some (y, x))) :
    Calls Tryz.prog 16 #[.string s] W fun e W' => ∃ g, e = .returned (.tuple #[.slice none 0 0, .iface 74 (.pointer (some ⟨g, 0, none⟩))]) ∧ LW w W' ∧ IsRef W' g x y := by
  refine (lwTokens h s hs).mono ?_
  rw [hT]
  rintro e W' ⟨h1, h2, h3, g, rfl, hr, _⟩
  exact ⟨g, rfl, h1, hr⟩
/-- One token joined, of a row just built. -/
theorem lwJoinNew {w W : World} (h : LW w W) (ts : List Lx.Tok) (n : Nat) (hn : n = ts.length) (hl : ts.length ≤ 1000000000) (hts : ∀ t ∈ ts, t.s.length ≤ 1000000000 ∧ -9223372036854775808 ≤ t.n ∧ t.n ≤ 9223372036854775807) {b : Lx.Bytes} {y : Nat} (hJ : Lx.join ts = (b, y)) :
    Calls Tryz.prog 18 #[.slice (some ⟨W.heap.size, 0, none⟩) n n] (W.alloc (.cells (ts.flatMap cellsT).toArray 26)) fun e W' => e = .returned (.tuple #[.string ⟨b.toArray⟩, .int .i64 y]) ∧ LW w W' := by
  have := lwJoin (h.alloc (.cells (ts.flatMap cellsT).toArray 26)) (toks_new W ts _ n n hn rfl) hl hts
  rw [hJ] at this
  exact this
theorem lwSameNew {w W : World} (h : LW w W) {ts : List Lx.Tok} {v : Value} (hv : ToksIn W v ts) (us : List Lx.Tok) (n : Nat) (hn : n = us.length) (hl : ts.length ≤ 1000000000) (hl2 : us.length ≤ 1000000000) :
    Calls Tryz.prog 25 #[v, .slice (some ⟨W.heap.size, 0, none⟩) n n] (W.alloc (.cells (us.flatMap cellsT).toArray 26)) fun e W' => e = .returned (.bool (decide (ts = us))) ∧ LW w W' :=
  lwSame (h.alloc _) (hv.below (grown_below (World.grownBy_alloc _ _ _))) (toks_new W us _ n n hn rfl) hl hl2

end Go.Proofs.YtbhdkkkaeabkhaaGreatDoor
