/-
  Plain laws: blanks and remarks between tokens. No program in sight.
-/
import Derived.Test.YtbhdkkkaeabkhaaGreatDoorLxMore
namespace Go.Proofs.YtbhdkkkaeabkhaaGreatDoor.Lx
open Go
set_option linter.unusedSimpArgs false

/-- Blanks and remarks that may stand ahead of a token. -/
def IsRow (r : Bytes) : Prop := (∀ c l, begins c = true → skip false (r ++ c :: l) = c :: l) ∧ (∃ c t, r = c :: t ∧ within c = false ∧ c ≠ 61)
def built (ps : List (Bytes × Tok)) : Bytes := ps.flatMap fun x => x.1 ++ (written x.2).1
theorem built_cons (x : Bytes × Tok) (ps : List (Bytes × Tok)) : built (x :: ps) = x.1 ++ ((written x.2).1 ++ built ps) := by
  unfold built
  rw [List.flatMap_cons, List.append_assoc]
theorem built_append (ps : List (Bytes × Tok)) (x : Bytes × Tok) : built (ps ++ [x]) = built ps ++ (x.1 ++ (written x.2).1) := by
  unfold built
  rw [List.flatMap_append]
  simp
theorem sep_built (ps : List (Bytes × Tok)) (tl : Bytes) (h : ∀ x ∈ ps, IsRow x.1) (ht : Sep tl) : Sep (built ps ++ tl) := by
  cases ps with
  | nil => exact ht
  | cons x ps =>
    obtain ⟨c, t, e, h1, h2⟩ := (h x (List.mem_cons_self ..)).2
    rw [built_cons, e]
    exact sep_cons h1 h2
theorem go_rows (tl : Bytes) (ht : Sep tl) (htl : skip false tl = []) : ∀ (ps : List (Bytes × Tok)) (i f p : Nat), (∀ x ∈ ps, IsRow x.1 ∧ (written x.2).2 = true) → i + ps.length ≤ 4096 → (built ps ++ tl).length < f →
    (go f p i (built ps ++ tl)).1.map Tok.bare = ps.map (fun x => x.2.bare) ∧ (go f p i (built ps ++ tl)).2 = none
  | ps, i, 0, p, _, _, h => by omega
  | [], i, f + 1, p, _, _, _ => by
    have : built [] ++ tl = tl := rfl
    rw [this, go_nil htl]
    exact ⟨rfl, rfl⟩
  | x :: ps, i, f + 1, p, hw, hc, hl => by
    obtain ⟨hr, hx⟩ := hw x (List.mem_cons_self ..)
    have hf := form_of_written hx
    obtain ⟨c, r, e, hb⟩ := form_begins hf
    have hsl := form_len hf
    have hs : skip false (built (x :: ps) ++ tl) = (written x.2).1 ++ (built ps ++ tl) := by
      rw [built_cons, List.append_assoc, List.append_assoc, e, List.cons_append, hr.1 _ _ hb]
    rw [List.length_cons] at hc
    have hl' : (built ps ++ tl).length < f := by
      have h1 : (built (x :: ps) ++ tl).length = x.1.length + ((written x.2).1.length + (built ps ++ tl).length) := by
        rw [built_cons, List.append_assoc, List.append_assoc, List.length_append, List.length_append]
      omega
    rw [go_tok hs hf ((sep_built ps tl (fun y hy => (hw y (List.mem_cons_of_mem _ hy)).1) ht).after _ _) (by omega)]
    obtain ⟨h1, h2⟩ := go_rows tl ht htl ps (i + 1) f (p + ((built (x :: ps) ++ tl).length - ((written x.2).1 ++ (built ps ++ tl)).length) + (written x.2).1.length) (fun u hu => hw u (List.mem_cons_of_mem _ hu)) (by omega) hl'
    exact ⟨by simp only [List.map_cons, h1]; rfl, h2⟩
theorem rows_law (ps : List (Bytes × Tok)) (hw : ∀ x ∈ ps, IsRow x.1 ∧ (written x.2).2 = true) (hc : ps.length ≤ 4096) (hl : (built ps).length ≤ 60000) :
    (toks (built ps ++ [32, 47, 47, 32, 101, 110, 100])).1.map Tok.bare = ps.map (fun x => x.2.bare) ∧ (toks (built ps ++ [32, 47, 47, 32, 101, 110, 100])).2 = none := by
  unfold toks
  rw [if_neg (by rw [List.length_append]; simp; omega)]
  exact go_rows _ (sep_cons (by decide) (by decide)) (by rfl) ps 0 _ 0 hw (by omega) (by omega)

def theRows : List Bytes := [[32], [10], [9, 32, 13], [47, 47, 32, 97, 32, 34, 32, 114, 101, 109, 97, 114, 107, 32, 255, 10], [32, 47, 47, 10, 10]]
theorem rows_are : ∀ r ∈ theRows, IsRow r := by
  intro r hr
  have : r = [32] ∨ r = [10] ∨ r = [9, 32, 13] ∨ r = [47, 47, 32, 97, 32, 34, 32, 114, 101, 109, 97, 114, 107, 32, 255, 10] ∨ r = [32, 47, 47, 10, 10] := by simpa [theRows] using hr
  rcases this with rfl | rfl | rfl | rfl | rfl
  · exact ⟨fun c l h => by show skip false (32 :: c :: l) = _; rw [skip_blank (by rfl), skip_begins h], 32, _, rfl, by decide, by decide⟩
  · exact ⟨fun c l h => by show skip false (10 :: c :: l) = _; rw [skip_blank (by rfl), skip_begins h], 10, _, rfl, by decide, by decide⟩
  · exact ⟨fun c l h => by show skip false (9 :: 32 :: 13 :: c :: l) = _; rw [skip_blank (by rfl), skip_blank (by rfl), skip_blank (by rfl), skip_begins h], 9, _, rfl, by decide, by decide⟩
  · exact ⟨fun c l h => by
      show skip false ([47, 47, 32, 97, 32, 34, 32, 114, 101, 109, 97, 114, 107, 32, 255] ++ 10 :: (c :: l)) = _
      rw [skip_nil_app _ false _ (by rfl), skip_begins h], 47, _, rfl, by decide, by decide⟩
  · exact ⟨fun c l h => by
      show skip false ([32, 47, 47] ++ 10 :: (10 :: c :: l)) = _
      rw [skip_nil_app _ false _ (by rfl), skip_blank (by rfl), skip_begins h], 32, _, rfl, by decide, by decide⟩

end Go.Proofs.YtbhdkkkaeabkhaaGreatDoor.Lx
