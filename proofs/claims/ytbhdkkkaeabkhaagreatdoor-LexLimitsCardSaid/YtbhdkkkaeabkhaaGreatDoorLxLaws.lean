/-
  Chapter 1 in plain Lean: what the walks of package lex ask of the plain functions. No program in sight.
-/
import Derived.Test.YtbhdkkkaeabkhaaGreatDoorLxSpec
namespace Go.Proofs.YtbhdkkkaeabkhaaGreatDoor.Lx

/-! ### lists -/
theorem drop_cons_of_lt {l : Bytes} {k : Nat} (h : k < l.length) : l.drop k = l[k] :: l.drop (k + 1) := List.drop_eq_getElem_cons h

theorem skip_le : ∀ (m : Bool) (l : Bytes), (skip m l).length ≤ l.length
  | _, [] => by simp [skip]
  | false, c :: t => by
    unfold skip
    split
    · have := skip_le false t; simp; omega
    · split
      · have := skip_le true t; simp; omega
      · simp
  | true, c :: t => by
    unfold skip
    split
    · have := skip_le false t; simp; omega
    · have := skip_le true t; simp; omega

theorem skip_blank {c : UInt8} {t : Bytes} (h : blank c = true) : skip false (c :: t) = skip false t := by simp [skip, h]
theorem skip_remark {c : UInt8} {t : Bytes} (h : blank c = false) (h1 : c.toNat = 47) (h2 : t.head? = some 47) : skip false (c :: t) = skip true t := by simp [skip, h, h1, h2]
theorem skip_stays {c : UInt8} {t : Bytes} (h : blank c = false) (h1 : ¬ (c.toNat = 47 ∧ t.head? = some 47)) : skip false (c :: t) = c :: t := by
  unfold skip
  rw [if_neg (by simp [h]), if_neg (by simpa using h1)]
theorem skip_within {c : UInt8} {t : Bytes} (h : c.toNat ≠ 10) : skip true (c :: t) = skip true t := by simp [skip, h]
theorem skip_out {c : UInt8} {t : Bytes} (h : c.toNat = 10) : skip true (c :: t) = skip false (c :: t) := by
  have hb : blank c = true := by simp [blank, h]
  simp [skip, h, hb]
theorem skip_end (m : Bool) : skip m [] = [] := by cases m <;> simp [skip]

end Go.Proofs.YtbhdkkkaeabkhaaGreatDoor.Lx
