/-
  Plain laws: where the tokens stand. No program in sight.
-/
import Derived.Test.YtbhdkkkaeabkhaaGreatDoorLxMore
namespace Go.Proofs.YtbhdkkkaeabkhaaGreatDoor.Lx
open Go
set_option linter.unusedSimpArgs false

theorem quoteIn_ge : ∀ (u : Bytes), u.length ≤ (quoteIn u).length
  | [] => by simp [quoteIn]
  | c :: u => by
    have := quoteIn_ge u
    rw [quoteIn_cons', List.length_append, List.length_cons]
    split
    · simp; omega
    · split <;> simp <;> omega
theorem form_bound {s : Bytes} {t : Tok} (h : Form s t) : t.s.length ≤ s.length ∧ 0 ≤ t.n ∧ t.n ≤ 9223372036854775807 := by
  cases h with
  | name => exact ⟨Nat.le_refl _, by simp, by simp⟩
  | number c s hs hv hz => exact ⟨Nat.zero_le _, by simp, by show ((value (c :: s) : Nat) : Int) ≤ _; omega⟩
  | text u hu =>
    refine ⟨?_, by simp, by simp⟩
    have := quoteIn_ge u
    simp [quote]
    omega
  | two => exact ⟨Nat.le_refl _, by decide, by decide⟩
  | sign => exact ⟨Nat.le_refl _, by simp, by simp⟩

/-- Each token's own text stands at its place; blanks and remarks alone between. -/
def Laid (l : Bytes) : Nat → List Tok → Prop
  | e, [] => e ≤ l.length ∧ toks (l.drop e) = ([], none)
  | e, t :: ts => ∃ q : Nat, t.pos = q ∧ e ≤ q ∧ q + (written t).1.length ≤ l.length ∧ (written t).2 = true ∧ (l.drop q).take (written t).1.length = (written t).1 ∧
      toks ((l.drop e).take (q - e)) = ([], none) ∧ (t.s.length ≤ l.length ∧ 0 ≤ t.n ∧ t.n ≤ 9223372036854775807) ∧ Laid l (q + (written t).1.length) ts
theorem toks_blank {l : Bytes} (h : skip false l = []) (hl : l.length ≤ 65536) : toks l = ([], none) := by
  unfold toks
  rw [if_neg (by omega), go_nil h]
theorem bare_back {t : Tok} (h : t.pos = 0) (q : Int) : Tok.bare { t with pos := q } = t := by
  cases t
  simp only at h
  subst h
  rfl
theorem go_laid (l : Bytes) (hl : l.length ≤ 65536) : ∀ (f p i : Nat) (ts : List Tok), p ≤ l.length → go f p i (l.drop p) = (ts, none) → l.length - p < f → Laid l p ts
  | 0, p, i, ts, _, _, h => by omega
  | f + 1, p, i, ts, hp, h, hf => by
    rcases go_inv h with ⟨hs, rfl⟩ | ⟨s, x, t, ts', hs, hF, ha, hi, rfl, hg⟩
    · exact ⟨hp, toks_blank hs (by rw [List.length_drop]; omega)⟩
    · have hle := skip_le false (l.drop p)
      have hpc := skip_piece false (l.drop p)
      obtain ⟨j, hj, e⟩ := skip_suffix false (l.drop p)
      have hjl : (skip false (l.drop p)).length = (l.drop p).length - j := by rw [e, List.length_drop]
      rw [List.drop_drop] at e
      rw [hs] at hle hpc hjl e
      obtain ⟨q, hq⟩ : ∃ q, p + ((l.drop p).length - (s ++ x).length) = q := ⟨_, rfl⟩
      have hqj : q = p + j := by omega
      rw [hq] at hg ⊢
      have hdq : l.drop q = s ++ x := by rw [e, hqj]
      have hqp : (l.drop p).length - (s ++ x).length = q - p := by omega
      rw [hqp] at hpc
      have hlen : (l.drop q).length = s.length + x.length := by rw [hdq, List.length_append]
      rw [List.length_drop] at hlen
      have hsl := form_len hF
      have hw := written_of_form (t := { t with pos := (q : Int) }) (s := s) (by rw [bare_back (form_pos hF)]; exact hF)
      have hb := form_bound hF
      have hx : l.drop (q + s.length) = x := by rw [← List.drop_drop, hdq, List.drop_left]
      refine ⟨q, rfl, by omega, ?_, by rw [hw], ?_, toks_blank hpc (by rw [List.length_take, List.length_drop]; omega), ⟨by have := hb.1; show t.s.length ≤ _; omega, hb.2⟩, ?_⟩
      · rw [hw]
        show q + s.length ≤ l.length
        omega
      · rw [hw, hdq]
        exact List.take_left
      · rw [hw]
        exact go_laid l hl f (q + s.length) (i + 1) ts' (by omega) (by rw [hx]; exact hg) (by omega)
theorem toks_laid {l : Bytes} {ts : List Tok} (h : toks l = (ts, none)) : Laid l 0 ts ∧ l.length ≤ 65536 := by
  unfold toks at h
  split at h
  · injection h with h1 h2; cases h2
  · rename_i hl
    exact ⟨go_laid l (by omega) _ 0 0 ts (Nat.zero_le _) h (by omega), by omega⟩

end Go.Proofs.YtbhdkkkaeabkhaaGreatDoor.Lx
