/-
  The walks of begins, wrong and Words; the package-level variables that are read.
-/
import Derived.Test.YtbhdkkkaeabkhaaGreatDoorLxWorld
import Derived.Test.YtbhdkkkaeabkhaaGreatDoorShelf
import Derived.Lib.IndexLaws
namespace Go.Proofs.YtbhdkkkaeabkhaaGreatDoor
open Go.RowKit
set_option linter.unusedSimpArgs false
set_option linter.unusedVariables false

theorem idx_begins (l : List UInt8) (c : UInt8) : decide (0 ≤ Lib.indexByte l c) = l.contains c := by
  have hge := Lib.indexByte_ge l c
  rw [Bool.eq_iff_iff]
  simp only [decide_eq_true_eq, List.contains_iff_mem]
  by_cases h : Lib.indexByte l c = -1
  · constructor
    · intro; omega
    · intro hm
      obtain ⟨k, hk, e⟩ := List.getElem_of_mem hm
      exact absurd (by rw [List.getElem?_eq_getElem hk, e]) (Lib.indexByte_none h k)
  · constructor
    · intro h0
      obtain ⟨o, ho⟩ := Int.eq_ofNat_of_zero_le h0
      exact List.mem_of_getElem? (Lib.indexByte_some ho).1
    · intro; omega

theorem lexBegins (b : UInt8) (w : World) : Calls Tryz.prog 58 #[.int .u8 (b.toNat : Int)] w fun e w' => e = .returned (.bool (Lx.begins b)) ∧ w = w' := by
  have hx := idx_begins Lx.signs b
  go_enter Tryz.func58, Tryz.ntmps58
  go_wp2_with (first | (go_at_call 84; refine (lexLetter _ _).mono ?_; rintro e w' ⟨rfl, rfl⟩) | (go_at_call 85; refine (lexDigit _ _).mono ?_; rintro e w' ⟨rfl, rfl⟩) | (go_at_call 86; refine (Tryz.strings_IndexByte _ _ _).mono ?_; rintro e w' ⟨rfl, rfl⟩))
  all_goals
    go_ret
    refine ⟨ret_bool ?_, rfl⟩
  · simp [Lx.begins, *]
  · simp [Lx.begins, *]
  · have e : b.toNat = 34 := by omega
    simp [Lx.begins, e]
  · have e : (b.toNat == 34) = false := by simp; omega
    have e2 : ((b.toNat : Int) == 34) = false := by simp; omega
    change ((b.toNat : Int) == 34 || decide (0 ≤ Lib.indexByte Lx.signs b)) = _
    rw [hx, e2]
    simp [Lx.begins, *]

/-- A refusal in memory. -/
def IsRef (w : World) (g : Nat) (p y : Int) : Prop := w.heap[g]? = some (.cells #[.int .i64 p, .int .i64 y] 81 (0, 0))

theorem lexWrong (p y : Int) (w : World) : Calls Tryz.prog 56 #[.int .i64 p, .int .i64 y] w fun e w' =>
    e = .returned (.pointer (some ⟨w.heap.size, 0, none⟩)) ∧ w' = w.alloc (.cells #[.int .i64 p, .int .i64 y] 81) := by
  go_enter Tryz.func56, Tryz.ntmps56
  go_wp2
  go_ret
  exact ⟨rfl, rfl⟩

/-- The cells of the language's words. -/
def wordCells : Array Value := (Lx.words.map fun l => Value.string ⟨l.toArray⟩).toArray

def wordText : ByteArray := { data := ([116, 121, 112, 101, 32, 109, 101, 116, 104, 111, 100, 32, 102, 117, 110, 99, 32, 109, 97, 105, 110, 32, 105, 110, 116, 101, 114, 102, 97, 99, 101, 32, 101, 109, 98, 101, 100, 32, 105, 110, 116, 32, 98, 111, 111, 108, 32, 116, 101, 120, 116, 32, 102, 110, 32, 108, 101, 116, 32, 112, 114].append [105, 110, 116, 32, 105, 102, 32, 101, 108, 115, 101, 32, 119, 104, 105, 108, 101, 32, 114, 101, 116, 117, 114, 110, 32, 110, 105, 108, 32, 110, 101, 119, 32, 116, 111, 32, 97, 110, 100, 32, 111, 114, 32, 110, 111, 116, 32, 116, 114, 117, 101, 32, 102, 97, 108, 115, 101, 32, 115, 101, 108, 102]).toArray }
theorem wordText_size : wordText.size < 4294967281 := by decide +kernel
theorem wordText_all : wordText.data.toList.all (fun b => decide (b.toNat < 128)) = true := by decide +kernel
theorem wordText_ascii (j : Nat) (b : UInt8) (h : wordText.data.toList[j]? = some b) : b.toNat < 128 :=
  of_decide_eq_true (List.all_eq_true.1 wordText_all b (List.mem_of_getElem? h))
theorem wordText_fields : Lib.fields wordText.data.toList = Lx.words := by decide +kernel

theorem lexWords (w : World) (htab : Lib.TabIs Tryz.prog w "strings.asciiSpace" .u8 Lib.asciiSpaceTab) : Calls Tryz.prog 20 #[] w fun e w' =>
    e = .returned (.slice (some ⟨w.heap.size, 0, none⟩) 25 25) ∧ w' = w.alloc (.cells wordCells 9) := by
  go_enter Tryz.func20, Tryz.ntmps20
  go_wp2_with (go_at_call 49; refine (Tryz.strings_Fields wordText _ wordText_size wordText_ascii htab).mono ?_; rw [wordText_fields]; rintro e w' ⟨rfl, rfl⟩)
  go_ret
  exact ⟨rfl, rfl⟩

end Go.Proofs.YtbhdkkkaeabkhaaGreatDoor
