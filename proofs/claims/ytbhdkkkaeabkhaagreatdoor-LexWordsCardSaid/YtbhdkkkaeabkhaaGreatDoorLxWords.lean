/-
  Plain laws: a name of letters. No program in sight.
-/
import Derived.Test.YtbhdkkkaeabkhaaGreatDoorLxMore
namespace Go.Proofs.YtbhdkkkaeabkhaaGreatDoor.Lx
open Go
set_option linter.unusedSimpArgs false

theorem letters_form {s : Bytes} (hs : ∀ c ∈ s, letter c = true) (h0 : s ≠ []) (hl : s.length ≤ 32) : Form s ⟨0, nameKind s, s, 0⟩ := by
  cases s with
  | nil => exact absurd rfl h0
  | cons c s => exact .name c s (hs c (List.mem_cons_self ..)) (fun d hd => letter_within (hs d hd)) hl
/-- Two names of letters: side by side, and apart. -/
theorem names_law {a b : Bytes} (ha : ∀ c ∈ a, letter c = true) (hb : ∀ c ∈ b, letter c = true) (h0 : a ≠ []) (hl : a.length + b.length ≤ 32) :
    toks (a ++ b) = ([⟨0, nameKind (a ++ b), a ++ b, 0⟩], none) ∧
    toks (a ++ 32 :: b) = ((⟨0, nameKind a, a, 0⟩ : Tok) :: (if b = [] then [] else [⟨((a.length + 1 : Nat) : Int), nameKind b, b, 0⟩]), none) := by
  have hab : ∀ c ∈ a ++ b, letter c = true := fun c hc => (List.mem_append.1 hc).elim (ha c) (hb c)
  refine ⟨toks_one (letters_form hab (by simp [h0]) (by rw [List.length_append]; exact hl)) (by rw [List.length_append]; omega), ?_⟩
  have hfa := letters_form ha h0 (by omega)
  obtain ⟨c, r, e, hc⟩ := form_begins hfa
  have h1 : skip false (a ++ 32 :: b) = a ++ 32 :: b := by rw [e, List.cons_append, skip_begins hc]
  unfold toks
  rw [if_neg (by rw [List.length_append, List.length_cons]; omega)]
  have hal : 0 < a.length := List.length_pos_iff.2 h0
  obtain ⟨f, hf⟩ : ∃ f, (a ++ 32 :: b).length + 1 = f + 3 := ⟨a.length - 1 + b.length, by rw [List.length_append, List.length_cons]; omega⟩
  rw [hf, go_tok h1 hfa ((sep_cons (by decide) (by decide)).after _ _) (by decide)]
  by_cases hb0 : b = []
  · subst hb0
    rw [go_nil (by rw [skip_blank (by rfl)]; exact skip_end _)]
    simp
  · have hfb := letters_form hb hb0 (by omega)
    obtain ⟨c', r', e', hc'⟩ := form_begins hfb
    have h2 : skip false (32 :: b) = b ++ [] := by rw [skip_blank (by rfl), e', skip_begins hc', List.append_nil]
    rw [go_tok h2 hfb (sep_nil.after _ _) (by decide), go_nil (skip_end _), if_neg hb0]
    simp only [List.append_nil, List.length_cons, Nat.sub_self, Nat.add_zero, Prod.mk.injEq, List.cons.injEq, and_true]
    refine ⟨?_, ?_⟩
    · congr 1
    · congr 1
      omega

end Go.Proofs.YtbhdkkkaeabkhaaGreatDoor.Lx
