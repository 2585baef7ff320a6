/-
  strconv.Atoi at digits alone; strconv.Itoa: what they answer, in the words of the plain spec.
-/
import Derived.Test.YtbhdkkkaeabkhaaGreatDoorLxGlob
import Derived.Lib.AtoiErrMem
namespace Go.Proofs.YtbhdkkkaeabkhaaGreatDoor
open Go.RowKit
set_option linter.unusedSimpArgs false
set_option linter.unusedVariables false

namespace Lx
def valueFrom (acc : Nat) (l : Bytes) : Nat := l.foldl (fun v c => v * 10 + (c.toNat - 48)) acc
theorem value_eq (l : Bytes) : value l = valueFrom 0 l := rfl
theorem valueFrom_ge : ∀ (l : Bytes) (acc : Nat), acc ≤ valueFrom acc l
  | [], acc => Nat.le_refl _
  | c :: t, acc => by
    have := valueFrom_ge t (acc * 10 + (c.toNat - 48))
    show acc ≤ valueFrom (acc * 10 + (c.toNat - 48)) t
    omega
theorem parse_digits : ∀ (l : Bytes) (acc : Nat), l.all digit = true → acc < 18446744073709551616 →
    Lib.parseUint10 acc l = if valueFrom acc l < 18446744073709551616 then .ok (valueFrom acc l) else .range
  | [], acc, _, h => by simp [Lib.parseUint10, valueFrom, h]
  | c :: t, acc, hd, h => by
    simp only [List.all_cons, Bool.and_eq_true] at hd
    have h1 : 48 ≤ c.toNat ∧ c.toNat ≤ 57 := by simpa [digit] using hd.1
    have hge := valueFrom_ge t (acc * 10 + (c.toNat - 48))
    have hv : valueFrom acc (c :: t) = valueFrom (acc * 10 + (c.toNat - 48)) t := rfl
    unfold Lib.parseUint10
    rw [if_pos h1, hv]
    by_cases a : 1844674407370955162 ≤ acc
    · rw [if_pos a, if_neg (by omega)]
    · rw [if_neg a]
      by_cases b : 18446744073709551616 ≤ acc * 10 + (c.toNat - 48)
      · rw [if_pos b, if_neg (by omega)]
      · rw [if_neg b]
        exact parse_digits t _ hd.2 (by omega)
theorem atoi_digits (l : Bytes) (hne : l ≠ []) (hd : l.all digit = true) : Lib.atoiAll l = if value l ≤ 9223372036854775807 then .ok (value l : Int) else .range := by
  cases l with
  | nil => exact absurd rfl hne
  | cons c t =>
    have hd' := hd
    simp only [List.all_cons, Bool.and_eq_true] at hd'
    have h1 : 48 ≤ c.toNat ∧ c.toNat ≤ 57 := by simpa [digit] using hd'.1
    have hp := parse_digits (c :: t) 0 hd (by omega)
    rw [← value_eq] at hp
    unfold Lib.atoiAll
    simp only
    rw [if_neg (by omega)]
    unfold Lib.parseMag
    rw [if_neg (by simp), hp]
    by_cases a : value (c :: t) < 18446744073709551616
    · rw [if_pos a]
      simp only
      by_cases b : value (c :: t) ≤ 9223372036854775807
      · rw [if_pos b, if_neg (by omega), if_neg (by omega), if_neg (by omega)]
      · rw [if_neg b, if_pos ⟨by omega, by omega⟩]
    · rw [if_neg a, if_neg (by omega)]
end Lx

theorem atoiOk (d : ByteArray) (w : World) (hne : 0 < d.size) (hs : d.size ≤ 140737488351232) (hd : d.data.toList.all Lx.digit = true) (hv : Lx.value d.data.toList ≤ 9223372036854775807) :
    Calls Tryz.prog 103 #[.string d] w fun e w' => e = .returned (.tuple #[.int .i64 (Lx.value d.data.toList : Nat), .nilIface]) ∧ Below w.heap.size w w' := by
  have hl : d.data.toList ≠ [] := by
    intro e
    have := len_size d
    rw [e] at this
    simp at this
    omega
  refine (Tryz.strconv_Atoi_ok d (by omega) _ (by rw [Lx.atoi_digits _ hl hd, if_pos hv]) w).mono ?_
  rintro e w' ⟨rfl, rfl | ⟨t, rfl⟩⟩
  · exact ⟨rfl, Below.refl _ _⟩
  · exact ⟨rfl, Lib.bytesWorld_below _ _ _⟩

theorem atoiRange (d : ByteArray) (w : World) (hG : GS w) (hne : 0 < d.size) (hs : d.size ≤ 140737488351232) (hd : d.data.toList.all Lx.digit = true) (hv : ¬ Lx.value d.data.toList ≤ 9223372036854775807) :
    Calls Tryz.prog 103 #[.string d] w fun e w' => (∃ (x : Int) (N : Nat), e = .returned (.tuple #[.int .i64 x, .iface 174 (.pointer (some ⟨N, 0, none⟩))])) ∧ Below w.heap.size w w' := by
  have hl : d.data.toList ≠ [] := by
    intro e
    have := len_size d
    rw [e] at this
    simp at this
    omega
  obtain ⟨ev, hc, hev⟩ := hG.rng
  refine (Tryz.strconv_Atoi_range d (by omega) (by rw [Lx.atoi_digits _ hl hd, if_neg hv]) ev w hc hev).mono ?_
  rintro e w' ⟨N, rfl, _, _, hb⟩
  exact ⟨⟨_, N, rfl⟩, hb⟩

end Go.Proofs.YtbhdkkkaeabkhaaGreatDoor
