/-
  Plain laws: what is joined is cut back; a rest behind a line's end; a token's place. No program in sight.
-/
import Derived.Test.YtbhdkkkaeabkhaaGreatDoorLxForm
namespace Go.Proofs.YtbhdkkkaeabkhaaGreatDoor.Lx
open Go

/-! ### blanks -/
theorem skip_app (x : Bytes) (c : UInt8) (r : Bytes) (h47 : c ≠ 47) : ∀ (m : Bool) (l : Bytes), skip m l = c :: r → skip m (l ++ x) = c :: (r ++ x)
  | m, [], h => by rw [skip_end] at h; cases h
  | false, a :: t, h => by
    unfold skip at h
    rw [List.cons_append]
    split at h
    · rename_i hb
      rw [skip_blank hb]
      exact skip_app x c r h47 false t h
    · rename_i hb
      have hb' : blank a = false := by simpa using hb
      split at h
      · rename_i hr
        simp only [Bool.and_eq_true, beq_iff_eq] at hr
        have hh : (t ++ x).head? = some 47 := by rw [List.head?_append, hr.2]; rfl
        rw [skip_remark hb' hr.1 hh]
        exact skip_app x c r h47 true t h
      · injection h with h1 h2
        subst h1; subst h2
        rw [skip_stays hb']
        rintro ⟨h1, -⟩
        exact h47 (UInt8.toNat_inj.1 h1)
  | true, a :: t, h => by
    unfold skip at h
    rw [List.cons_append]
    split at h
    · rename_i hb
      have hb' : a.toNat = 10 := by simpa using hb
      have h10 : skip true (a :: (t ++ x)) = skip false (t ++ x) := by simp [skip, hb']
      rw [h10]
      exact skip_app x c r h47 false t h
    · rename_i hb
      rw [skip_within (by simpa using hb)]
      exact skip_app x c r h47 true t h
theorem skip_nil_app (x : Bytes) : ∀ (m : Bool) (l : Bytes), skip m l = [] → skip m (l ++ 10 :: x) = skip false x
  | false, [], _ => by rw [List.nil_append, skip_blank (by rfl)]
  | true, [], _ => by simp [skip]
  | false, a :: t, h => by
    unfold skip at h
    rw [List.cons_append]
    split at h
    · rename_i hb
      rw [skip_blank hb]
      exact skip_nil_app x false t h
    · rename_i hb
      have hb' : blank a = false := by simpa using hb
      split at h
      · rename_i hr
        simp only [Bool.and_eq_true, beq_iff_eq] at hr
        have hh : (t ++ 10 :: x).head? = some 47 := by rw [List.head?_append, hr.2]; rfl
        rw [skip_remark hb' hr.1 hh]
        exact skip_nil_app x true t h
      · cases h
  | true, a :: t, h => by
    unfold skip at h
    rw [List.cons_append]
    split at h
    · rename_i hb
      have hb' : a.toNat = 10 := by simpa using hb
      have h10 : skip true (a :: (t ++ 10 :: x)) = skip false (t ++ 10 :: x) := by simp [skip, hb']
      rw [h10]
      exact skip_nil_app x false t h
    · rename_i hb
      rw [skip_within (by simpa using hb)]
      exact skip_nil_app x true t h
/-- What was skipped is blanks and remarks. -/
theorem skip_piece : ∀ (m : Bool) (l : Bytes), skip m (l.take (l.length - (skip m l).length)) = []
  | m, [] => by simp [skip_end]
  | false, a :: t => by
    by_cases hb : blank a = true
    · rw [skip_blank hb, List.length_cons, show t.length + 1 - (skip false t).length = (t.length - (skip false t).length) + 1 by have := skip_le false t; omega, List.take_succ_cons, skip_blank hb]
      exact skip_piece false t
    · have hb' : blank a = false := by simpa using hb
      by_cases hr : a.toNat = 47 ∧ t.head? = some 47
      · rw [skip_remark hb' hr.1 hr.2, List.length_cons, show t.length + 1 - (skip true t).length = (t.length - (skip true t).length) + 1 by have := skip_le true t; omega, List.take_succ_cons]
        cases t with
        | nil => cases hr.2
        | cons d t =>
          have hd : d = 47 := by simpa using hr.2
          subst hd
          have hlt : (skip true (47 :: t)).length ≤ t.length := by rw [skip_within (by decide)]; exact skip_le true t
          rw [skip_remark hb' hr.1]
          · exact skip_piece true (47 :: t)
          · rw [List.length_cons, show t.length + 1 - (skip true (47 :: t)).length = (t.length - (skip true (47 :: t)).length) + 1 by omega, List.take_succ_cons]
            rfl
      · rw [skip_stays hb' hr]
        simp [skip_end]
  | true, a :: t => by
    by_cases hb : a.toNat = 10
    · have h10 : ∀ t, skip true (a :: t) = skip false t := fun t => by simp [skip, hb]
      rw [h10, List.length_cons, show t.length + 1 - (skip false t).length = (t.length - (skip false t).length) + 1 by have := skip_le false t; omega, List.take_succ_cons, h10]
      exact skip_piece false t
    · rw [skip_within hb, List.length_cons, show t.length + 1 - (skip true t).length = (t.length - (skip true t).length) + 1 by have := skip_le true t; omega, List.take_succ_cons, skip_within hb]
      exact skip_piece true t

theorem begins_not {c : UInt8} (h : begins c = true) : blank c = false ∧ c ≠ 47 := by
  unfold begins at h
  simp only [Bool.or_eq_true] at h
  have key : ∀ n : Nat, c.toNat = n → (n ≠ 9 ∧ n ≠ 10 ∧ n ≠ 13 ∧ n ≠ 32 ∧ n ≠ 47) → blank c = false ∧ c ≠ 47 := by
    rintro n hn ⟨h1, h2, h3, h4, h5⟩
    refine ⟨?_, ?_⟩
    · unfold blank
      simp only [hn, Bool.or_eq_false_iff, beq_eq_false_iff_ne]
      exact ⟨⟨⟨h1, h2⟩, h3⟩, h4⟩
    · rintro rfl
      exact h5 hn.symm
  rcases h with ((h | h) | h) | h
  · simp only [letter, small, great, Bool.or_eq_true, Bool.and_eq_true, decide_eq_true_eq] at h
    exact key _ rfl (by omega)
  · simp only [digit, Bool.and_eq_true, decide_eq_true_eq] at h
    exact key _ rfl (by omega)
  · simp only [beq_iff_eq] at h
    exact key _ rfl (by omega)
  · exact ⟨(sign_cases h).2.2.2.2, (sign_cases h).2.2.2.1⟩
theorem skip_begins {c : UInt8} {l : Bytes} (h : begins c = true) : skip false (c :: l) = c :: l := skip_stays (begins_not h).1 (fun e => (begins_not h).2 (UInt8.toNat_inj.1 e.1))

/-! ### one round -/
theorem go_nil {f p i : Nat} {l : Bytes} (h : skip false l = []) : go (f + 1) p i l = ([], none) := by
  simp [go, h]
theorem go_tok {f p i : Nat} {l s x : Bytes} {t : Tok} (hs : skip false l = s ++ x) (hf : Form s t) (ha : After s x t) (hi : i ≠ 4096) :
    go (f + 1) p i l = ({ t with pos := ((p + (l.length - (s ++ x).length) : Nat) : Int) } :: (go f (p + (l.length - (s ++ x).length) + s.length) (i + 1) x).1, (go f (p + (l.length - (s ++ x).length) + s.length) (i + 1) x).2) := by
  obtain ⟨c, r, e, hb⟩ := form_begins hf
  have hcut := form_cut hf ha (p + (l.length - (s ++ x).length))
  rw [go]
  simp only [hs]
  rw [e, List.cons_append] at *
  simp only [hb, Bool.not_true, Bool.false_eq_true, if_false, hi, beq_iff_eq]
  rw [hcut]
  simp only
  rw [show (c :: (r ++ x)).drop (c :: r).length = x from List.drop_left (l₁ := c :: r)]
theorem go_inv {f p i : Nat} {l : Bytes} {ts : List Tok} (h : go (f + 1) p i l = (ts, none)) : (skip false l = [] ∧ ts = []) ∨
    ∃ s x t ts', skip false l = s ++ x ∧ Form s t ∧ After s x t ∧ i ≠ 4096 ∧ ts = { t with pos := ((p + (l.length - (s ++ x).length) : Nat) : Int) } :: ts' ∧ go f (p + (l.length - (s ++ x).length) + s.length) (i + 1) x = (ts', none) := by
  rw [go] at h
  simp only at h
  split at h
  · rename_i hr
    injection h with h1 h2
    exact .inl ⟨hr, h1.symm⟩
  · rename_i b r hr
    right
    by_cases hb : begins b = true
    · rw [hb] at h
      simp only [Bool.not_true, Bool.false_eq_true, if_false] at h
      by_cases hi : i = 4096
      · simp [hi] at h
      · simp only [beq_iff_eq, hi, if_false] at h
        split at h
        · injection h with h1 h2; cases h2
        · rename_i t n hcut
          rw [hr] at hcut
          obtain ⟨s, x, e1, e2, e3, e4, e5⟩ := cut_form (fun d hd => by injection hd with hd; subst hd; exact hb) hcut
          subst e2
          rw [hr, e1] at h
          rw [List.drop_left] at h
          injection h with h1 h2
          refine ⟨s, x, t.bare, _, by rw [hr, e1], e3, e4, hi, ?_, Prod.ext rfl h2⟩
          rw [← h1]
          congr 1
          rw [e5]
          rw [e1]
          rfl
    · simp [hb] at h

theorem form_len {s : Bytes} {t : Tok} (h : Form s t) : 0 < s.length := by
  obtain ⟨c, r, e, -⟩ := form_begins h
  rw [e]; simp
/-- More fuel changes nothing; nor does what was skipped ahead. -/
theorem go_fuel : ∀ (f f' p i : Nat) (l : Bytes), l.length < f → l.length < f' → go f p i l = go f' p i l
  | 0, _, _, _, _, h, _ => by omega
  | _, 0, _, _, _, _, h => by omega
  | f + 1, f' + 1, p, i, l, h, h' => by
    rw [go, go]
    simp only
    have hl := skip_le false l
    split
    · rfl
    · rename_i b r hr
      split
      · rfl
      · split
        · rfl
        · split
          · rfl
          · rename_i t n hcut
            obtain ⟨h1, h2⟩ := cut_len hcut
            rw [go_fuel f f' _ _ _ (by rw [List.length_drop]; omega) (by rw [List.length_drop]; omega)]
theorem go_ahead {f f' p p' i : Nat} {l l' : Bytes} (hs : skip false l = skip false l') (hp : p + (l.length - (skip false l).length) = p' + (l'.length - (skip false l').length)) (h : l.length < f) (h' : l'.length < f') : go f p i l = go f' p' i l' := by
  cases f with
  | zero => omega
  | succ f =>
    cases f' with
    | zero => omega
    | succ f' =>
      have hl := skip_le false l
      have hl' := skip_le false l'
      rw [go, go]
      simp only
      rw [hp, hs]
      split
      · rfl
      · rename_i b r hr
        rw [hs] at hl
        split
        · rfl
        · split
          · rfl
          · split
            · rfl
            · rename_i t n hcut
              obtain ⟨h1, h2⟩ := cut_len hcut
              rw [go_fuel f f' _ _ _ (by rw [List.length_drop]; omega) (by rw [List.length_drop]; omega)]

/-! ### a rest behind a line's end -/
theorem sep_line (b : Bytes) : Sep (10 :: b) := sep_cons (by decide) (by decide)
theorem After.line {s x : Bytes} {t : Tok} (h : After s x t) {y : Bytes} (hy : Sep y) : After s (x ++ y) t := by
  cases x with
  | nil => exact hy.after _ _
  | cons c x => exact h
theorem go_append (b : Bytes) : ∀ (f p i : Nat) (a : Bytes) (xs : List Tok), go f p i a = (xs, none) → a.length < f →
    go (f + b.length + 1) p i (a ++ 10 :: b) = (xs ++ (go (b.length + 1) (p + a.length + 1) (i + xs.length) b).1, (go (b.length + 1) (p + a.length + 1) (i + xs.length) b).2)
  | 0, _, _, _, _, _, h => by omega
  | f + 1, p, i, a, xs, h, hl => by
    rcases go_inv h with ⟨hs, rfl⟩ | ⟨s, x, t, ts', hs, hf, ha, hi, rfl, hg⟩
    · have hk := skip_nil_app b false a hs
      have hkl := skip_le false b
      rw [go_ahead (f' := b.length + 1) (p' := p + a.length + 1) (l' := b) hk (by rw [hk, List.length_append, List.length_cons]; omega) (by rw [List.length_append, List.length_cons]; omega) (by omega)]
      simp
    · obtain ⟨c, r, e, hb⟩ := form_begins hf
      have hsl := form_len hf
      have hle := skip_le false a
      rw [hs, List.length_append] at hle
      have hk : skip false (a ++ 10 :: b) = s ++ (x ++ 10 :: b) := by
        rw [e, List.cons_append] at hs
        rw [skip_app (10 :: b) c (r ++ x) (begins_not hb).2 false a hs, e]
        simp
      have ih := go_append b f _ (i + 1) x ts' hg (by omega)
      rw [show f + 1 + b.length + 1 = (f + b.length + 1) + 1 by omega, go_tok hk hf (ha.line (sep_line b)) hi]
      have hq : p + ((a ++ 10 :: b).length - (s ++ (x ++ 10 :: b)).length) = p + (a.length - (s ++ x).length) := by
        simp only [List.length_append, List.length_cons]
        omega
      rw [hq, ih]
      have hp2 : p + (a.length - (s ++ x).length) + s.length + x.length + 1 = p + a.length + 1 := by
        rw [List.length_append]
        omega
      rw [hp2, List.length_cons, show i + 1 + ts'.length = i + (ts'.length + 1) by omega]
      rfl
/-- Tokens at another place, behind others. -/
theorem go_shift : ∀ (f p i : Nat) (l : Bytes) (ts : List Tok), go f p i l = (ts, none) → ∀ p' i' : Nat, i' + ts.length ≤ 4096 → go f p' i' l = (ts.map fun t => { t with pos := t.pos - p + p' }, none)
  | 0, p, i, l, ts, h, p', i', _ => by
    rw [go] at h ⊢
    injection h with h1 h2
    subst h1
    rfl
  | f + 1, p, i, l, ts, h, p', i', hc => by
    rcases go_inv h with ⟨hs, rfl⟩ | ⟨s, x, t, ts', hs, hf, ha, hi, rfl, hg⟩
    · rw [go_nil hs]; rfl
    · rw [List.length_cons] at hc
      rw [go_tok hs hf ha (by omega), go_shift f _ _ x ts' hg _ (i' + 1) (by omega)]
      simp only [List.map_cons, Prod.mk.injEq, and_true, List.cons.injEq]
      refine ⟨?_, ?_⟩
      · congr 1
        omega
      · apply List.map_congr_left
        intro u _
        congr 1
        omega

/-! ### what every cut token is -/
/-- Each token has its place, its own text stands there; blanks and remarks alone between. 'l' is what stands from the place 'p' on. -/
theorem go_parts : ∀ (f p i : Nat) (l : Bytes) (ts : List Tok), go f p i l = (ts, none) → i ≤ 4096 → i + ts.length ≤ 4096 ∧ ∀ t ∈ ts, Form (written t).1 t.bare ∧ (written t).2 = true ∧ (written t).1.length ≤ l.length ∧ (p : Int) ≤ t.pos ∧ t.pos < p + l.length
  | 0, p, i, l, ts, h, hi => by
    rw [go] at h
    injection h with h1 h2
    subst h1
    exact ⟨by simpa using hi, by simp⟩
  | f + 1, p, i, l, ts, h, hi => by
    rcases go_inv h with ⟨hs, rfl⟩ | ⟨s, x, t, ts', hs, hf, ha, hi', rfl, hg⟩
    · exact ⟨by simpa using hi, by simp⟩
    · obtain ⟨h1, h2⟩ := go_parts f _ _ x ts' hg (by omega)
      have hle := skip_le false l
      have hsl := form_len hf
      rw [hs, List.length_append] at hle
      refine ⟨by rw [List.length_cons]; omega, ?_⟩
      intro u hu
      rcases List.mem_cons.1 hu with rfl | hu
      · have hb : Tok.bare { t with pos := ((p + (l.length - (s ++ x).length) : Nat) : Int) } = t := by
          have := form_pos hf
          cases t
          simp only [Tok.bare] at *
          subst this
          rfl
        have hw := written_of_form (t := { t with pos := ((p + (l.length - (s ++ x).length) : Nat) : Int) }) (s := s) (by rw [hb]; exact hf)
        rw [hw, hb]
        refine ⟨hf, rfl, by simp only; omega, by simp only; omega, ?_⟩
        simp only [List.length_append]
        omega
      · obtain ⟨a1, a2, a3, a4, a5⟩ := h2 u hu
        rw [List.length_append] at a4 a5
        exact ⟨a1, a2, by omega, by omega, by omega⟩

/-! ### join -/
theorem joinFrom_len : ∀ (ts : List Tok) (i : Nat) (b b' : Bytes), joinFrom i b ts = some b' → b.length ≤ b'.length ∧ ∀ t ∈ ts, (written t).2 = true
  | [], i, b, b', h => by
    unfold joinFrom at h
    injection h with h
    subst h
    exact ⟨Nat.le_refl _, by simp⟩
  | t :: ts, i, b, b', h => by
    unfold joinFrom at h
    split at h
    · rename_i hw
      obtain ⟨h1, h2⟩ := joinFrom_len ts _ _ _ h
      refine ⟨Nat.le_trans ?_ h1, ?_⟩
      · unfold joinStep
        split
        · exact Nat.le_refl _
        · split <;> simp <;> omega
      · intro u hu
        rcases List.mem_cons.1 hu with rfl | hu
        · exact hw
        · exact h2 u hu
    · cases h
/-- The tokens' texts, a blank ahead of each but the first. -/
def sepFrom : Nat → List Tok → Bytes
  | _, [] => []
  | i, t :: l => (if 0 < i then [32] else []) ++ ((written t).1 ++ sepFrom (i + 1) l)
theorem sepFrom_cons (i : Nat) (t : Tok) (l : List Tok) : sepFrom i (t :: l) = (if 0 < i then [32] else []) ++ ((written t).1 ++ sepFrom (i + 1) l) := rfl
theorem joinFrom_sep : ∀ (ts : List Tok) (i : Nat) (b b' : Bytes), joinFrom i b ts = some b' → b'.length ≤ 65536 → b' = b ++ sepFrom i ts
  | [], i, b, b', h, _ => by
    unfold joinFrom at h
    injection h with h
    subst h
    simp [sepFrom]
  | t :: ts, i, b, b', h, hl => by
    unfold joinFrom at h
    split at h
    · have hb : b.length ≤ 65536 := by
        have h1 := (joinFrom_len ts _ _ _ h).1
        unfold joinStep at h1
        split at h1
        · omega
        · split at h1 <;> simp at h1 <;> omega
      have := joinFrom_sep ts _ _ _ h hl
      rw [this, sepFrom_cons]
      unfold joinStep
      rw [if_neg (by omega)]
      split <;> simp
    · cases h
theorem sep_sepFrom (i : Nat) (ts : List Tok) (hi : 0 < i) : Sep (sepFrom i ts) := by
  cases ts with
  | nil => exact sep_nil
  | cons t ts =>
    unfold sepFrom
    rw [if_pos hi]
    exact sep_cons (by decide) (by decide)
theorem go_sep : ∀ (ts : List Tok) (i f p : Nat), (∀ t ∈ ts, (written t).2 = true) → i + ts.length ≤ 4096 → (sepFrom i ts).length < f →
    (go f p i (sepFrom i ts)).1.map Tok.bare = ts.map Tok.bare ∧ (go f p i (sepFrom i ts)).2 = none
  | ts, i, 0, p, _, _, h => by omega
  | [], i, f + 1, p, _, _, _ => by
    rw [go_nil (by unfold sepFrom; exact skip_end _)]
    exact ⟨rfl, rfl⟩
  | t :: ts, i, f + 1, p, hw, hc, hl => by
    have hf := form_of_written (hw t (List.mem_cons_self ..))
    obtain ⟨c, r, e, hb⟩ := form_begins hf
    have hsl := form_len hf
    have hs : skip false (sepFrom i (t :: ts)) = (written t).1 ++ sepFrom (i + 1) ts := by
      rw [sepFrom_cons, e]
      split
      · show skip false (32 :: (c :: (r ++ sepFrom (i + 1) ts))) = _
        rw [skip_blank (by rfl), skip_begins hb]; rfl
      · show skip false (c :: (r ++ sepFrom (i + 1) ts)) = _
        rw [skip_begins hb]; rfl
    rw [List.length_cons] at hc
    have hl' : (sepFrom (i + 1) ts).length < f := by
      have h1 : (sepFrom i (t :: ts)).length = (if 0 < i then [32] else [] : Bytes).length + ((written t).1.length + (sepFrom (i + 1) ts).length) := by rw [sepFrom, List.length_append, List.length_append]
      omega
    obtain ⟨h1, h2⟩ := go_sep ts (i + 1) f (p + ((sepFrom i (t :: ts)).length - ((written t).1 ++ sepFrom (i + 1) ts).length) + (written t).1.length) (fun u hu => hw u (List.mem_cons_of_mem _ hu)) (by omega) hl'
    rw [go_tok hs hf ((sep_sepFrom (i + 1) ts (by omega)).after _ _) (by omega)]
    exact ⟨by simp only [List.map_cons, h1]; rfl, h2⟩
/-- What is joined is cut into the same tokens. -/
theorem join_back {ts : List Tok} {b : Bytes} (h : join ts = (b, 0)) : (toks b).1.map Tok.bare = ts.map Tok.bare ∧ (toks b).2 = none := by
  unfold join at h
  split at h
  · injection h with h1 h2; cases h2
  · rename_i b' hj
    split at h
    · injection h with h1 h2; cases h2
    · rename_i hb
      split at h
      · injection h with h1 h2; cases h2
      · rename_i hc
        injection h with h1 h2
        subst h1
        have he := joinFrom_sep ts 0 [] b' hj (by omega)
        rw [List.nil_append] at he
        unfold toks
        rw [if_neg hb, he]
        exact go_sep ts 0 _ 0 (joinFrom_len ts _ _ _ hj).2 (by omega) (by omega)
theorem join_written : ∀ (ts : List Tok) (i : Nat) (b : Bytes), (∀ t ∈ ts, (written t).2 = true) → ∃ b', joinFrom i b ts = some b'
  | [], i, b, _ => ⟨b, rfl⟩
  | t :: ts, i, b, h => by
    unfold joinFrom
    rw [if_pos (h t (List.mem_cons_self ..))]
    exact join_written ts _ _ (fun u hu => h u (List.mem_cons_of_mem _ hu))
/-- What was cut can be joined, if it isn't too long. -/
theorem toks_join {src : Bytes} {ts : List Tok} (h : toks src = (ts, none)) : (join ts).2 = 0 ∨ (join ts).2 = 2 := by
  unfold toks at h
  split at h
  · injection h with h1 h2; cases h2
  · obtain ⟨hc, hp⟩ := go_parts _ _ _ _ _ h (by omega)
    obtain ⟨b', hj⟩ := join_written ts 0 [] (fun t ht => (hp t ht).2.1)
    unfold join
    rw [hj]
    simp only
    split
    · exact .inr rfl
    · rw [if_neg (by omega)]
      exact .inl rfl
/-- One token joined. -/
theorem join_one {t : Tok} (h : (written t).2 = true) (hl : (written t).1.length ≤ 65536) : join [t] = ((written t).1, 0) := by
  have hj : joinFrom 0 [] [t] = some ((written t).1) := by
    unfold joinFrom
    rw [if_pos h]
    unfold joinFrom joinStep
    simp
  unfold join
  rw [hj]
  simp only
  rw [if_neg (by omega), if_neg (by simp)]
theorem join_one_bad {t : Tok} (h : (written t).2 = false) : join [t] = ([], 1) := by
  have hj : joinFrom 0 [] [t] = none := by
    unfold joinFrom
    rw [if_neg (by simp [h])]
  unfold join
  rw [hj]

end Go.Proofs.YtbhdkkkaeabkhaaGreatDoor.Lx
