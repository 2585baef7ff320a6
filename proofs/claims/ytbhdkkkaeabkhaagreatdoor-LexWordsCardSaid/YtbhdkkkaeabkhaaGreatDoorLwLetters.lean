/-
  The walk of letters.
-/
import Derived.Test.YtbhdkkkaeabkhaaGreatDoorLwFew
namespace Go.Proofs.YtbhdkkkaeabkhaaGreatDoor
open Go.RowKit Go.Shelf
set_option linter.unusedSimpArgs false
set_option linter.unusedVariables false

theorem byte_of_list {B : ByteArray} {l : List UInt8} (h : B.data.toList = l) (m : Nat) (hm : m < B.size) : l[m]'(by rw [← h, len_size]; exact hm) = B[m]'hm := by
  subst h
  rfl
theorem slice_one (B : ByteArray) (m : Nat) (hm : m < B.size) : B.extract m (m + 1) = ⟨#[B[m]'hm]⟩ := by
  rw [← mk_back (B.extract m (m + 1)), Lib.extract_data]
  have : (B.data.toList.drop m).take (m + 1 - m) = [B[m]'hm] := by
    rw [byte_at B m hm, show m + 1 - m = 1 by omega]
    rfl
  rw [this]

def AllLetters (B : ByteArray) : Prop := ∀ c ∈ B.data.toList, Lx.letter c = true
set_option maxRecDepth 100000 in
set_option maxHeartbeats 4000000 in
theorem lawLetters (s : ByteArray) (hs : s.size ≤ 9223372036854775807) (w : World) : Calls Tryz.prog 36 #[.string s] w fun e w' => ∃ B : ByteArray, e = .returned (.string B) ∧ AllLetters B ∧ B.size ≤ 20 ∧ w' = w := by
  go_enter Tryz.func36, Tryz.ntmps36
  go_wp2
  go_loopg [3, 4] (s.size) (fun n r v wr => ∃ (m : Nat) (B : ByteArray), n = s.size - m ∧ r = .string B ∧ v = .int .i64 (m : Int) ∧ m ≤ s.size ∧ AllLetters B ∧ B.size ≤ 20 ∧ wr = w)
  case atStart => exact ⟨0, ⟨#[]⟩, rfl, rfl, rfl, Nat.zero_le _, (fun c hc => by simp at hc), by decide, rfl⟩
  case round =>
    obtain ⟨m, B, hn, rfl, rfl, hm, hl, hB, rfl⟩ := hrel
    have HN := Lib.hid hn
    have HL := Lib.hid hl
    clear hn hl
    by_cases hlt : m < s.size
    · have hi : (m : Int) < (s.size : Int) := by omega
      have hi0 : (0 : Int) ≤ (m : Int) := by omega
      have hmi : (m : Int) < 9223372036854775807 := by omega
      by_cases h20 : B.size < 20
      · have hb : (B.size : Int) < 20 := by omega
        have hso := slice_one s m hlt
        obtain ⟨c, hc⟩ : ∃ c, s[m]'hlt = c := ⟨_, rfl⟩
        rw [hc] at hso
        have hlen : (B ++ ⟨#[c]⟩ : ByteArray).size ≤ 20 := by rw [ByteArray.size_append]; show B.size + 1 ≤ 20; omega
        have hrel : Lx.letter c = true → (∀ d ∈ (B ++ ⟨#[c]⟩ : ByteArray).data.toList, Lx.letter d = true) := by
          intro h d hd
          rw [ByteArray.data_append] at hd
          simp only [Array.toList_append, List.mem_append, List.mem_singleton] at hd
          rcases hd with hd | hd
          · exact HL.out d hd
          · subst hd; exact h
        by_cases hsm : (97 : Int) ≤ (c.toNat : Int) ∧ (c.toNat : Int) ≤ 122
        · obtain ⟨a1, a2⟩ := hsm
          have HR := Lib.hid (hrel (by simp only [Lx.letter, Lx.small, Bool.or_eq_true, Bool.and_eq_true, decide_eq_true_eq]; omega))
          clear hrel
          go_wp2
          go_roundg (s.size - (m + 1))
          case measure => have := HN.out; omega
          case rel => exact ⟨m + 1, _, rfl, rfl, by simp, hlt, HR.out, hlen, rfl⟩
        · by_cases hgr : (65 : Int) ≤ (c.toNat : Int) ∧ (c.toNat : Int) ≤ 90
          · obtain ⟨a1, a2⟩ := hgr
            have a3 : ¬ (97 : Int) ≤ (c.toNat : Int) := by omega
            have HR := Lib.hid (hrel (by simp only [Lx.letter, Lx.great, Bool.or_eq_true, Bool.and_eq_true, decide_eq_true_eq]; omega))
            clear hrel
            go_wp2
            go_roundg (s.size - (m + 1))
            case measure => have := HN.out; omega
            case rel => exact ⟨m + 1, _, rfl, rfl, by simp, hlt, HR.out, hlen, rfl⟩
          · clear hrel
            have c1 : decide ((97 : Int) ≤ (c.toNat : Int)) = true → decide ((c.toNat : Int) ≤ 122) = false := by simp; omega
            by_cases a1 : (97 : Int) ≤ (c.toNat : Int)
            · have a2 : ¬ (c.toNat : Int) ≤ 122 := by omega
              have a3 : (65 : Int) ≤ (c.toNat : Int) := by omega
              have a4 : ¬ (c.toNat : Int) ≤ 90 := by omega
              go_wp2
              go_roundg (s.size - (m + 1))
              case measure => have := HN.out; omega
              case rel => exact ⟨m + 1, _, rfl, rfl, by simp, hlt, HL.out, hB, rfl⟩
            · by_cases a3 : (65 : Int) ≤ (c.toNat : Int)
              · have a4 : ¬ (c.toNat : Int) ≤ 90 := by omega
                go_wp2
                go_roundg (s.size - (m + 1))
                case measure => have := HN.out; omega
                case rel => exact ⟨m + 1, _, rfl, rfl, by simp, hlt, HL.out, hB, rfl⟩
              · go_wp2
                go_roundg (s.size - (m + 1))
                case measure => have := HN.out; omega
                case rel => exact ⟨m + 1, _, rfl, rfl, by simp, hlt, HL.out, hB, rfl⟩
      · have hb : ¬ (B.size : Int) < 20 := by omega
        go_wp2
        go_ret
        exact ⟨_, rfl, HL.out, hB, rfl⟩
    · have hi : ¬ (m : Int) < (s.size : Int) := by omega
      go_wp2
      go_ret
      exact ⟨_, rfl, HL.out, hB, rfl⟩

end Go.Proofs.YtbhdkkkaeabkhaaGreatDoor
