/-
  Plain laws: around the longest text, the most tokens, the longest name. No program in sight.
-/
import Derived.Test.YtbhdkkkaeabkhaaGreatDoorLxMore
import Derived.KernelRfl
namespace Go.Proofs.YtbhdkkkaeabkhaaGreatDoor.Lx
open Go
set_option linter.unusedSimpArgs false

theorem skip_spaces : ∀ n : Nat, skip false (List.replicate n 32) = []
  | 0 => rfl
  | n + 1 => by rw [List.replicate_succ, skip_blank (by rfl)]; exact skip_spaces n
theorem spaces_ok (n : Nat) (h : n ≤ 65536) : toks (List.replicate n 32) = ([], none) := by
  unfold toks
  rw [if_neg (by rw [List.length_replicate]; omega), go_nil (skip_spaces n)]
theorem spaces_bad (n : Nat) (h : 65536 < n) : toks (List.replicate n 32) = ([], some (2, 0)) := by
  unfold toks
  rw [if_pos (by rw [List.length_replicate]; omega)]

/-- '; ' so many times. -/
def semis : Nat → Bytes
  | 0 => []
  | n + 1 => 59 :: 32 :: semis n
theorem semis_snoc : ∀ n, semis (n + 1) = semis n ++ [59, 32]
  | 0 => rfl
  | n + 1 => by
    have := semis_snoc n
    show 59 :: 32 :: semis (n + 1) = 59 :: 32 :: (semis n ++ [59, 32])
    rw [this]
theorem semis_len : ∀ n, (semis n).length = 2 * n
  | 0 => rfl
  | n + 1 => by
    have := semis_len n
    show (semis n).length + 1 + 1 = _
    omega
theorem go_semis : ∀ (k f p i : Nat), i ≤ 4096 → 2 * k < f → (i + k ≤ 4096 → (go f p i (semis k)).2 = none ∧ (go f p i (semis k)).1.length = k) ∧ (4096 < i + k → (go f p i (semis k)).2 = some (3, p + 2 * (4096 - i)))
  | 0, f, p, i, hi, hf => by
    obtain ⟨f, rfl⟩ : ∃ f', f = f' + 1 := ⟨f - 1, by omega⟩
    rw [go_nil (by show skip false [] = []; rfl)]
    exact ⟨fun _ => ⟨rfl, rfl⟩, fun h => by omega⟩
  | k + 1, f, p, i, hi, hf => by
    obtain ⟨f, rfl⟩ : ∃ f', f = f' + 1 := ⟨f - 1, by omega⟩
    have hs : skip false (semis (k + 1)) = ([59] : Bytes) ++ ((32 :: semis k : Bytes)) := by
      show skip false (59 :: 32 :: semis k) = _
      rw [skip_begins (by decide)]
      rfl
    by_cases h96 : i = 4096
    · subst h96
      refine ⟨fun h => by omega, fun _ => ?_⟩
      rw [go]
      simp only [hs]
      have hb : begins 59 = true := by decide
      simp [hb]
      rw [semis_len, semis_len]
      omega
    · have hF : Form [59] ⟨0, 6, [59], 0⟩ := .sign 59 (by decide)
      have hle := skip_le false (semis k)
      have hq : p + ((semis (k + 1)).length - (([59] : Bytes) ++ ((32 :: semis k : Bytes))).length) = p := by
        rw [semis_len, List.length_append, List.length_cons, List.length_cons, List.length_nil, semis_len]
        omega
      have e1 : (32 :: semis k : Bytes).length = (semis k).length + 1 := rfl
      have e2 : skip false (32 :: semis k) = skip false (semis k) := skip_blank (by rfl)
      have e3 := semis_len k
      have ha : go f (p + 1) (i + 1) (32 :: semis k) = go f (p + 2) (i + 1) (semis k) :=
        go_ahead e2 (by rw [e2, e1]; omega) (by rw [e1]; omega) (by omega)
      obtain ⟨h1, h2⟩ := go_semis k f (p + 2) (i + 1) (by omega) (by omega)
      rw [go_tok hs hF ((sep_cons (by decide) (by decide)).after _ _) h96, hq]
      show (i + (k + 1) ≤ 4096 → (go f (p + 1) (i + 1) (32 :: semis k)).2 = none ∧ (go f (p + 1) (i + 1) (32 :: semis k)).1.length + 1 = k + 1) ∧ (4096 < i + (k + 1) → (go f (p + 1) (i + 1) (32 :: semis k)).2 = some (3, p + 2 * (4096 - i)))
      rw [ha]
      refine ⟨fun h => ?_, fun h => ?_⟩
      · obtain ⟨a1, a2⟩ := h1 (by omega)
        exact ⟨a1, by rw [a2]⟩
      · rw [h2 (by omega)]
        congr 2
        omega
theorem semis_toks (n : Nat) (h : n ≤ 4097) : (n ≤ 4096 → ∃ ts, toks (semis n) = (ts, none) ∧ ts.length = n) ∧ (n = 4097 → ∃ ts, toks (semis n) = (ts, some (3, 8192))) := by
  have hl : ¬ 65536 < (semis n).length := by rw [semis_len]; omega
  obtain ⟨h1, h2⟩ := go_semis n ((semis n).length + 1) 0 0 (by omega) (by rw [semis_len]; omega)
  unfold toks
  rw [if_neg hl]
  refine ⟨fun hn => ?_, fun hn => ?_⟩
  · obtain ⟨a1, a2⟩ := h1 (by omega)
    exact ⟨_, Prod.ext rfl a1, a2⟩
  · exact ⟨_, Prod.ext rfl (h2 (by omega))⟩

def semi : Tok := ⟨0, 6, [59], 0⟩
theorem semi_written : written semi = ([59], true) := by
  have h : Form [59] (Tok.bare semi) := .sign 59 (by decide)
  exact written_of_form h
theorem joinFrom_semis : ∀ (k i : Nat) (b : Bytes), 0 < i → b.length + 2 * k ≤ 65536 → ∃ b', joinFrom i b (List.replicate k semi) = some b' ∧ b'.length = b.length + 2 * k
  | 0, i, b, _, _ => ⟨b, rfl, by omega⟩
  | k + 1, i, b, hi, hb => by
    rw [List.replicate_succ]
    unfold joinFrom
    rw [semi_written, if_pos rfl]
    have hst : joinStep i b [59] = b ++ [32, 59] := by
      unfold joinStep
      rw [if_neg (by omega), if_pos hi]
      simp
    rw [hst]
    obtain ⟨b', h1, h2⟩ := joinFrom_semis k (i + 1) (b ++ [32, 59]) (by omega) (by simp; omega)
    exact ⟨b', h1, by rw [h2]; simp; omega⟩
theorem semis_join (k : Nat) (h : k + 1 ≤ 4097) : (k + 1 ≤ 4096 → ∃ b, join (List.replicate (k + 1) semi) = (b, 0) ∧ b.length = 2 * k + 1) ∧ (k + 1 = 4097 → join (List.replicate (k + 1) semi) = ([], 3)) := by
  have hj : ∃ b', joinFrom 0 [] (List.replicate (k + 1) semi) = some b' ∧ b'.length = 2 * k + 1 := by
    rw [List.replicate_succ]
    unfold joinFrom
    rw [semi_written, if_pos rfl]
    have hst : joinStep 0 [] [59] = [59] := rfl
    rw [hst]
    obtain ⟨b', h1, h2⟩ := joinFrom_semis k 1 [59] (by omega) (by simp; omega)
    exact ⟨b', h1, by rw [h2]; simp; omega⟩
  obtain ⟨b', h1, h2⟩ := hj
  unfold join
  rw [h1]
  simp only [List.length_replicate]
  rw [if_neg (by omega)]
  refine ⟨fun hn => ⟨b', by rw [if_neg (by omega)], h2⟩, fun hn => by rw [if_pos (by omega)]⟩

theorem name31 : (toks (List.replicate 31 97)).2 = none ∧ (toks (List.replicate 31 97)).1.length = 1 ∧ (join [⟨0, 1, List.replicate 31 97, 0⟩]).2 = 0 := ⟨by kernel_rfl, by kernel_rfl, by kernel_rfl⟩
theorem name32 : (toks (List.replicate 32 97)).2 = none ∧ (toks (List.replicate 32 97)).1.length = 1 ∧ (join [⟨0, 1, List.replicate 32 97, 0⟩]).2 = 0 := ⟨by kernel_rfl, by kernel_rfl, by kernel_rfl⟩
theorem name33 : (toks (List.replicate 33 97)).2 = some (2, 32) ∧ (join [⟨0, 1, List.replicate 33 97, 0⟩]).2 = 1 := ⟨by kernel_rfl, by kernel_rfl⟩

end Go.Proofs.YtbhdkkkaeabkhaaGreatDoor.Lx
