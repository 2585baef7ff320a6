/-
  One round of the cut, in plain Lean: what the walk of 'cut' asks.
-/
import Derived.Test.YtbhdkkkaeabkhaaGreatDoorLxSkip
namespace Go.Proofs.YtbhdkkkaeabkhaaGreatDoor
open Go.RowKit

namespace Lx
theorem skip_suffix : ∀ (m : Bool) (l : Bytes), ∃ j, j ≤ l.length ∧ skip m l = l.drop j
  | _, [] => ⟨0, Nat.le_refl _, by simp [skip_end]⟩
  | false, c :: t => by
    unfold skip
    split
    · obtain ⟨j, hj, e⟩ := skip_suffix false t; exact ⟨j + 1, by simp; omega, by simpa using e⟩
    · split
      · obtain ⟨j, hj, e⟩ := skip_suffix true t; exact ⟨j + 1, by simp; omega, by simpa using e⟩
      · exact ⟨0, Nat.zero_le _, rfl⟩
  | true, c :: t => by
    unfold skip
    split
    · obtain ⟨j, hj, e⟩ := skip_suffix false t; exact ⟨j + 1, by simp; omega, by simpa using e⟩
    · obtain ⟨j, hj, e⟩ := skip_suffix true t; exact ⟨j + 1, by simp; omega, by simpa using e⟩

theorem quoted_len (p : Nat) (t : Tok) (n : Nat) : ∀ (m : Nat) (l acc : Bytes) (k : Nat), l.length ≤ m → quoted p l acc k = .ok t n → k < n ∧ n ≤ k + l.length
  | m, [], acc, k, hm, h => by simp [quoted] at h
  | m + 1, c :: t', acc, k, hm, h => by
    have hm' : t'.length ≤ m := by simpa using hm
    by_cases e34 : c = 34
    · subst e34; simp [quoted] at h; have := h.2; simp; omega
    · by_cases e92 : c = 92
      · subst e92
        cases t' with
        | nil => simp [quoted] at h
        | cons d t'' =>
          have hm2 : t''.length ≤ m := by simp at hm'; omega
          have h' : (if d.toNat == 110 then quoted p t'' (acc ++ [10]) (k + 2) else if d.toNat == 34 || d.toNat == 92 then quoted p t'' (acc ++ [d]) (k + 2) else .bad 12 (p + k + 1)) = .ok t n := h
          split at h'
          · have := quoted_len p t n m t'' _ _ hm2 h'; simp; omega
          · split at h'
            · have := quoted_len p t n m t'' _ _ hm2 h'; simp; omega
            · cases h'
      · have h' : (if c.toNat < 32 || 126 < c.toNat then Res.bad 12 (p + k) else quoted p t' (acc ++ [c]) (k + 1)) = .ok t n := by
          rw [quoted.eq_def] at h
          split at h
          · cases ‹_ :: _ = []›
          · rename_i h1; injection h1 with h1 h2; exact absurd h1 e34
          · rename_i h1; injection h1 with h1 h2; exact absurd h1 e92
          · rename_i h1; injection h1 with h1 h2; exact absurd h1 e92
          · rename_i h1; injection h1 with h1 h2; subst h1; subst h2; exact h
        split at h'
        · cases h'
        · have := quoted_len p t n m t' _ _ hm' h'; simp; omega
  | 0, c :: t', acc, k, hm, h => by simp at hm

theorem takeWhile_len {l : Bytes} (f : UInt8 → Bool) : (l.takeWhile f).length ≤ l.length := (List.takeWhile_sublist f).length_le

theorem cut_len {p : Nat} {l : Bytes} {t : Tok} {n : Nat} (h : cut p l = .ok t n) : 0 < n ∧ n ≤ l.length := by
  cases l with
  | nil => simp [cut] at h
  | cons b l =>
    simp only [cut] at h
    split at h
    · rename_i hb
      unfold cutName at h
      simp only at h
      split at h
      · cases h
      · injection h with h1 h2
        subst h2
        refine ⟨?_, takeWhile_len _⟩
        rw [List.takeWhile_cons, if_pos (by simp [within, hb])]
        simp
    · split at h
      · rename_i hb
        unfold cutNumber at h
        simp only at h
        split at h
        · cases h
        · injection h with h1 h2
          subst h2
          refine ⟨?_, takeWhile_len _⟩
          rw [List.takeWhile_cons, if_pos hb]
          simp
      · split at h
        · have := quoted_len p t n _ l [] 1 (Nat.le_refl _) h
          simp; omega
        · split at h
          · rename_i h2
            injection h with h1 h2'
            subst h2'
            simp at h2
            cases l with
            | nil => simp at h2
            | cons d l => simp
          · injection h with h1 h2
            subst h2
            simp
end Lx

section
variable {s : ByteArray} {m i f : Nat}
theorem skip_at (s : ByteArray) (m : Nat) (hm : m ≤ s.size) : m ≤ skipAt s m ∧ skipAt s m ≤ s.size ∧ Lx.skip false (s.data.toList.drop m) = s.data.toList.drop (skipAt s m) := by
  obtain ⟨j, hj, e⟩ := Lx.skip_suffix false (s.data.toList.drop m)
  have hl : (s.data.toList.drop m).length = s.size - m := by rw [List.length_drop, len_size]
  have h1 : skipAt s m = m + j := by
    unfold skipAt
    rw [e, List.length_drop, hl]
    omega
  rw [h1, e, List.drop_drop]
  exact ⟨by omega, by omega, rfl⟩
theorem go_place (hm : m ≤ s.size) : m + ((s.data.toList.drop m).length - (Lx.skip false (s.data.toList.drop m)).length) = skipAt s m := by
  have h := skip_at s m hm
  rw [h.2.2, List.length_drop, List.length_drop, len_size]
  omega
theorem go_end (hm : m ≤ s.size) (hq : skipAt s m = s.size) : Lx.go (f + 1) m i (s.data.toList.drop m) = ([], none) := by
  have h := skip_at s m hm
  simp only [Lx.go]
  rw [h.2.2, hq, List.drop_eq_nil_of_le (by rw [len_size]; exact Nat.le_refl _)]
theorem go_at (hm : m ≤ s.size) (hq : skipAt s m < s.size) : Lx.go (f + 1) m i (s.data.toList.drop m) =
    if !Lx.begins (s[skipAt s m]'hq) then ([], some (10, skipAt s m))
      else if i == 4096 then ([], some (3, skipAt s m))
      else match Lx.cut (skipAt s m) (s.data.toList.drop (skipAt s m)) with
        | .bad why x => ([], some (why, x))
        | .ok t n => ((t :: (Lx.go f (skipAt s m + n) (i + 1) (s.data.toList.drop (skipAt s m + n))).1), (Lx.go f (skipAt s m + n) (i + 1) (s.data.toList.drop (skipAt s m + n))).2) := by
  have h := skip_at s m hm
  simp only [Lx.go, go_place hm]
  rw [h.2.2]
  have e : ∀ (n : Nat), List.drop n (List.drop (skipAt s m) s.data.toList) = List.drop (skipAt s m + n) s.data.toList := fun n => by rw [List.drop_drop]
  rw [byte_at s _ hq]
  simp only
  rw [← byte_at s _ hq]
  simp only [e]
  rfl
theorem go_byte (hm : m ≤ s.size) (hq : skipAt s m < s.size) (hb : Lx.begins (s[skipAt s m]'hq) = false) : Lx.go (f + 1) m i (s.data.toList.drop m) = ([], some (10, skipAt s m)) := by
  rw [go_at hm hq, hb]; rfl
theorem go_many (hm : m ≤ s.size) (hq : skipAt s m < s.size) (hb : Lx.begins (s[skipAt s m]'hq) = true) (hi : i = 4096) : Lx.go (f + 1) m i (s.data.toList.drop m) = ([], some (3, skipAt s m)) := by
  rw [go_at hm hq, hb, hi]; rfl
theorem go_bad {y x : Nat} (hm : m ≤ s.size) (hq : skipAt s m < s.size) (hb : Lx.begins (s[skipAt s m]'hq) = true) (hi : i ≠ 4096) (h : Lx.cut (skipAt s m) (s.data.toList.drop (skipAt s m)) = .bad y x) :
    Lx.go (f + 1) m i (s.data.toList.drop m) = ([], some (y, x)) := by
  rw [go_at hm hq, hb, h, if_neg (by simp), if_neg (by simpa using hi)]
theorem go_ok {t : Lx.Tok} {n : Nat} (hm : m ≤ s.size) (hq : skipAt s m < s.size) (hb : Lx.begins (s[skipAt s m]'hq) = true) (hi : i ≠ 4096) (h : Lx.cut (skipAt s m) (s.data.toList.drop (skipAt s m)) = .ok t n) :
    Lx.go (f + 1) m i (s.data.toList.drop m) = (t :: (Lx.go f (skipAt s m + n) (i + 1) (s.data.toList.drop (skipAt s m + n))).1, (Lx.go f (skipAt s m + n) (i + 1) (s.data.toList.drop (skipAt s m + n))).2) := by
  rw [go_at hm hq, hb, h, if_neg (by simp), if_neg (by simpa using hi)]
theorem cut_fits {q : Nat} {t : Lx.Tok} {n : Nat} (hq : q < s.size) (h : Lx.cut q (s.data.toList.drop q) = .ok t n) : 0 < n ∧ q + n ≤ s.size := by
  have := Lx.cut_len h
  rw [List.length_drop, len_size] at this
  omega
end

end Go.Proofs.YtbhdkkkaeabkhaaGreatDoor
