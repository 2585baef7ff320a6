/-
  Plain laws: a text's tokens behind another's; they rise. No program in sight.
-/
import Derived.Test.YtbhdkkkaeabkhaaGreatDoorLxMore
namespace Go.Proofs.YtbhdkkkaeabkhaaGreatDoor.Lx
open Go
set_option linter.unusedSimpArgs false

theorem go_count : ∀ (f p i : Nat) (l : Bytes) (ts : List Tok), go f p i l = (ts, none) → ts.length ≤ l.length
  | 0, p, i, l, ts, h => by
    rw [go] at h
    injection h with h1 h2
    subst h1
    exact Nat.zero_le _
  | f + 1, p, i, l, ts, h => by
    rcases go_inv h with ⟨hs, rfl⟩ | ⟨s, x, t, ts', hs, hF, ha, hi, rfl, hg⟩
    · exact Nat.zero_le _
    · have h1 := go_count f _ _ x ts' hg
      have hle := skip_le false l
      have hsl := form_len hF
      rw [hs, List.length_append] at hle
      rw [List.length_cons]
      omega
/-- Each place is behind the last one, and in the text. -/
def Rising (L : Int) : Int → List Tok → Prop
  | _, [] => True
  | last, t :: ts => last < t.pos ∧ t.pos < L ∧ Rising L t.pos ts
theorem go_rising (L : Int) : ∀ (f p i : Nat) (l : Bytes) (ts : List Tok) (last : Int), go f p i l = (ts, none) → last < p → (p : Int) + l.length ≤ L → Rising L last ts
  | 0, p, i, l, ts, last, h, _, _ => by
    rw [go] at h
    injection h with h1 h2
    subst h1
    trivial
  | f + 1, p, i, l, ts, last, h, hp, hL => by
    rcases go_inv h with ⟨hs, rfl⟩ | ⟨s, x, t, ts', hs, hF, ha, hi, rfl, hg⟩
    · trivial
    · have hle := skip_le false l
      have hsl := form_len hF
      rw [hs, List.length_append] at hle
      refine ⟨?_, ?_, go_rising L f _ _ x ts' _ hg ?_ ?_⟩
      · show last < ((p + (l.length - (s ++ x).length) : Nat) : Int)
        omega
      · show ((p + (l.length - (s ++ x).length) : Nat) : Int) < L
        rw [List.length_append]
        omega
      · show ((p + (l.length - (s ++ x).length) : Nat) : Int) < _
        omega
      · rw [List.length_append]
        omega
theorem toks_go {l : Bytes} {ts : List Tok} {o : Option (Nat × Nat)} (hl : l.length ≤ 65536) : toks l = (ts, o) ↔ go (l.length + 1) 0 0 l = (ts, o) := by
  unfold toks
  rw [if_neg (by omega)]
theorem toks_rising {l : Bytes} {ts : List Tok} (h : toks l = (ts, none)) (hl : l.length ≤ 65536) : Rising l.length (-1) ts :=
  go_rising _ _ 0 0 l ts (-1) ((toks_go hl).1 h) (by decide) (by simp)
theorem head_law {a b : Bytes} (ha : a.length ≤ 2000) (hb : b.length ≤ 2000) {xs : List Tok} (h : toks a = (xs, none)) :
    (∀ zs, toks b = (zs, none) → toks (a ++ 10 :: b) = (xs ++ zs.map (fun t => { t with pos := t.pos + (a.length : Int) + 1 }), none) ∧ xs.length + zs.length ≤ 4096) ∧
    (∀ zs y x, toks b = (zs, some (y, x)) → ∃ ws y' x', toks (a ++ 10 :: b) = (ws, some (y', x'))) := by
  have hg := (toks_go (by omega)).1 h
  have hga := go_append b _ 0 0 a xs hg (by omega)
  have hxc := go_count _ _ _ _ _ hg
  have hlen : (a ++ 10 :: b).length + 1 = a.length + 1 + b.length + 1 := by rw [List.length_append, List.length_cons]; omega
  have hl2 : (a ++ 10 :: b).length ≤ 65536 := by omega
  refine ⟨fun zs hz => ?_, fun zs y x hz => ?_⟩
  · have hgb := (toks_go (by omega)).1 hz
    have hzc := go_count _ _ _ _ _ hgb
    have hsh := go_shift _ 0 0 b zs hgb (0 + a.length + 1) (0 + xs.length) (by omega)
    refine ⟨?_, by omega⟩
    rw [toks_go hl2, hlen, hga, hsh]
    simp only [Prod.mk.injEq, and_true]
    congr 1
    apply List.map_congr_left
    intro t _
    congr 1
    omega
  · obtain ⟨⟨ws, o⟩, hr⟩ : ∃ r, toks (a ++ 10 :: b) = r := ⟨_, rfl⟩
    cases o with
    | some q => exact ⟨ws, q.1, q.2, hr⟩
    | none =>
      exfalso
      rw [toks_go hl2, hlen, hga] at hr
      injection hr with h1 h2
      obtain ⟨⟨us, o⟩, hG⟩ : ∃ r, go (b.length + 1) (0 + a.length + 1) (0 + xs.length) b = r := ⟨_, rfl⟩
      rw [hG] at h2
      simp only at h2
      subst h2
      have huc := go_count _ _ _ _ _ hG
      have hback := go_shift _ _ _ b us hG 0 0 (by omega)
      have hgb := (toks_go (by omega)).1 hz
      rw [hback] at hgb
      injection hgb with _ h3
      cases h3

end Go.Proofs.YtbhdkkkaeabkhaaGreatDoor.Lx
