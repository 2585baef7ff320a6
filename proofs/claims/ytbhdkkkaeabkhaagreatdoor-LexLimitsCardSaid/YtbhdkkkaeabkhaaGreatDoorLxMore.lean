/-
  Plain laws: single tokens cut from their texts. No program in sight.
-/
import Derived.Test.YtbhdkkkaeabkhaaGreatDoorLxBack
namespace Go.Proofs.YtbhdkkkaeabkhaaGreatDoor.Lx
open Go
set_option linter.unusedSimpArgs false

theorem all_step {α : Type} (f : α → Bool) (l : List α) (m : Nat) (h : m < l.length) : (l.take (m + 1)).all f = ((l.take m).all f && f l[m]) := by
  rw [List.take_succ_eq_append_getElem h, List.all_append]
  simp

/-- A text that is one token. -/
theorem toks_one {s : Bytes} {t : Tok} (h : Form s t) (hl : s.length ≤ 65536) : toks s = ([t], none) := by
  obtain ⟨c, r, e, hb⟩ := form_begins h
  have hs : skip false s = s ++ [] := by rw [e, skip_begins hb, List.append_nil]
  unfold toks
  rw [if_neg (by omega), go_tok hs h (sep_nil.after _ _) (by decide)]
  have hp := form_pos h
  obtain ⟨f, hf⟩ : ∃ f, s.length = f + 1 := ⟨s.length - 1, by rw [e]; simp⟩
  rw [List.append_nil, Nat.sub_self, hf, go_nil (skip_end _)]
  cases t
  simp only at hp
  subst hp
  rfl

/-! ### texts -/
theorem nameKind_le (s : Bytes) : 1 ≤ nameKind s ∧ nameKind s ≤ 3 := by
  unfold nameKind
  split
  · decide
  · split <;> decide
theorem form_said {q : Bytes} {t : Tok} (h : Form q t) (hk : t.kind = 5) : ∀ c ∈ t.s, saidB c = true := by
  cases h with
  | name c s _ _ _ =>
    have := nameKind_le (c :: s)
    simp only at hk
    omega
  | number => cases hk
  | text u hu => exact hu
  | two => cases hk
  | sign => cases hk
theorem text_written (s : Bytes) : (written ⟨0, 5, s, 0⟩).2 = s.all saidB := by
  rw [Bool.eq_iff_iff]
  constructor
  · intro h
    have hf := form_of_written h
    have hb : (Tok.bare ⟨0, 5, s, 0⟩) = ⟨0, 5, s, 0⟩ := rfl
    rw [hb] at hf
    generalize (written ⟨0, 5, s, 0⟩).1 = q at hf
    rw [List.all_eq_true]
    exact form_said hf rfl
  · intro h
    have hf : Form (quote s) (Tok.bare ⟨0, 5, s, 0⟩) := .text s (List.all_eq_true.1 h)
    rw [written_of_form hf]
theorem quote_len (s : Bytes) : (quote s).length ≤ 2 * s.length + 2 := by
  have := quoteIn_len s
  simp [quote]
  omega
/-- Any text that may stand in one is quoted and cut back. -/
theorem text_law (s : Bytes) (hl : s.length ≤ 1000) : if s.all saidB then join [⟨0, 5, s, 0⟩] = (quote s, 0) ∧ toks (quote s) = ([⟨0, 5, s, 0⟩], none) else join [⟨0, 5, s, 0⟩] = ([], 1) := by
  split
  · rename_i h
    have hf : Form (quote s) ⟨0, 5, s, 0⟩ := .text s (List.all_eq_true.1 h)
    have hw := written_of_form (t := ⟨0, 5, s, 0⟩) hf
    have hq := quote_len s
    refine ⟨?_, toks_one hf (by omega)⟩
    have := join_one (t := ⟨0, 5, s, 0⟩) (by rw [hw]) (by rw [hw]; show (quote s).length ≤ _; omega)
    rw [this, hw]
  · rename_i h
    exact join_one_bad (by rw [text_written]; simpa using h)

/-! ### numbers -/
theorem number_form (n : Nat) (hn : n ≤ 9223372036854775807) : Form (Lib.decDigits n) ⟨0, 4, [], n⟩ := by
  obtain ⟨c, s, e1, e2, e3, e4⟩ := decDigits_form n
  have := Form.number c s e2 (by omega) (fun h => (e4 h).1)
  rw [e3, ← e1] at this
  exact this
theorem number_law (n : Nat) (hn : n ≤ 9223372036854775807) : join [⟨0, 4, [], n⟩] = (Lib.decDigits n, 0) ∧ toks (120 :: 32 :: (Lib.decDigits n ++ [59])) = ([⟨0, 1, [120], 0⟩, ⟨2, 4, [], n⟩, ⟨((2 + (Lib.decDigits n).length : Nat) : Int), 6, [59], 0⟩], none) := by
  have hf := number_form n hn
  have hw := written_of_form (t := ⟨0, 4, [], n⟩) hf
  have hlen : (Lib.decDigits n).length ≤ 20 := by
    rw [Lib.decDigits_length]
    have := nD_le 19 n (by omega)
    omega
  refine ⟨?_, ?_⟩
  · have := join_one (t := ⟨0, 4, [], n⟩) (by rw [hw]) (by rw [hw]; show (Lib.decDigits n).length ≤ _; omega)
    rw [this, hw]
  · obtain ⟨c, r, e, hb⟩ := form_begins hf
    have hfx : Form [120] ⟨0, 1, [120], 0⟩ := .name 120 [] (by decide) (by simp; decide) (by decide)
    have hfs : Form [59] ⟨0, 6, [59], 0⟩ := .sign 59 (by decide)
    have h1 : skip false (120 :: 32 :: (Lib.decDigits n ++ [59])) = [120] ++ 32 :: (Lib.decDigits n ++ [59]) := by rw [skip_begins (by decide)]; rfl
    have h2 : skip false (32 :: (Lib.decDigits n ++ [59])) = Lib.decDigits n ++ [59] := by rw [skip_blank (by decide), e, List.cons_append, skip_begins hb]
    have h3 : skip false [59] = [59] ++ [] := by rw [skip_begins (by decide)]; rfl
    unfold toks
    rw [if_neg (by simp; omega)]
    obtain ⟨f, hf'⟩ : ∃ f, (120 :: 32 :: (Lib.decDigits n ++ [59])).length + 1 = f + 4 := ⟨(Lib.decDigits n).length, by simp⟩
    rw [hf', go_tok h1 hfx ((sep_cons (by decide) (by decide)).after _ _) (by decide)]
    rw [go_tok h2 hf ((sep_cons (by decide) (by decide)).after _ _) (by decide)]
    rw [go_tok h3 hfs (sep_nil.after _ _) (by decide), go_nil (skip_end _)]
    simp only [List.length_append, List.length_cons, List.length_nil, Nat.zero_add, Nat.sub_self, Prod.mk.injEq, List.cons.injEq, and_true, true_and]
    refine ⟨?_, ?_, ?_⟩
    · congr 1
      omega
    · congr 1
      omega
    · congr 1
      omega

end Go.Proofs.YtbhdkkkaeabkhaaGreatDoor.Lx
