/-
  Plain laws: what text a token has, and that a cut looks no further than its token. No program in sight.
-/
import Derived.Test.YtbhdkkkaeabkhaaGreatDoorLxJoin
namespace Go.Proofs.YtbhdkkkaeabkhaaGreatDoor.Lx
open Go

set_option linter.unusedSimpArgs false
/-! ### quoted, case by case -/
theorem quoted_esc (p : Nat) (c : UInt8) (t acc : Bytes) (k : Nat) : quoted p (92 :: c :: t) acc k = (if c.toNat == 110 then quoted p t (acc ++ [10]) (k + 2) else if c.toNat == 34 || c.toNat == 92 then quoted p t (acc ++ [c]) (k + 2) else .bad 12 (p + k + 1)) := rfl
theorem quoted_byte (p : Nat) (c : UInt8) (t acc : Bytes) (k : Nat) (e34 : c ≠ 34) (e92 : c ≠ 92) : quoted p (c :: t) acc k = (if c.toNat < 32 || 126 < c.toNat then Res.bad 12 (p + k) else quoted p t (acc ++ [c]) (k + 1)) := by
  rw [quoted.eq_def]
  split
  · cases ‹_ :: _ = []›
  · rename_i h1; injection h1 with h1 h2; exact absurd h1 e34
  · rename_i h1; injection h1 with h1 h2; exact absurd h1 e92
  · rename_i h1; injection h1 with h1 h2; exact absurd h1 e92
  · rename_i h1; injection h1 with h1 h2; subst h1; subst h2; rfl

/-- May a byte stand in a text? -/
def saidB (c : UInt8) : Bool := c.toNat == 10 || (decide (32 ≤ c.toNat) && decide (c.toNat ≤ 126))

theorem quoteIn_cons' (c : UInt8) (t : Bytes) : quoteIn (c :: t) = (if c.toNat == 10 then [92, 110] else if c.toNat == 34 || c.toNat == 92 then [92, c] else [c]) ++ quoteIn t := rfl

theorem u8ne {c : UInt8} {d : UInt8} : (c.toNat == d.toNat) = (c == d) := by
  rw [Bool.eq_iff_iff]; simp [UInt8.toNat_inj]

/-- What was cut as a text. -/
theorem quoted_form (p : Nat) (t : Tok) (n : Nat) : ∀ (m : Nat) (l acc : Bytes) (k : Nat), l.length ≤ m → quoted p l acc k = .ok t n →
    ∃ u x, l = quoteIn u ++ 34 :: x ∧ (∀ c ∈ u, saidB c = true) ∧ t = ⟨p, 5, acc ++ u, 0⟩ ∧ n = k + (quoteIn u).length + 1
  | m, [], acc, k, hm, h => by simp [quoted] at h
  | 0, c :: t', acc, k, hm, h => by simp at hm
  | m + 1, c :: t', acc, k, hm, h => by
    have hm' : t'.length ≤ m := by simpa using hm
    by_cases e34 : c = 34
    · subst e34
      simp [quoted] at h
      exact ⟨[], t', by simp [quoteIn], by simp, by simp [h.1], by simp [quoteIn, h.2]⟩
    · by_cases e92 : c = 92
      · subst e92
        cases t' with
        | nil => simp [quoted] at h
        | cons d t'' =>
          have hm2 : t''.length ≤ m := by simp at hm'; omega
          rw [quoted_esc] at h
          split at h
          · rename_i hd
            obtain ⟨u, x, e1, e2, e3, e4⟩ := quoted_form p t n m t'' _ _ hm2 h
            have hd' : d = 110 := UInt8.toNat_inj.1 (by simpa using hd)
            subst hd'
            refine ⟨10 :: u, x, ?_, ?_, ?_, ?_⟩
            · rw [quoteIn_cons', e1]; simp
            · intro c hc
              rcases List.mem_cons.1 hc with rfl | hc
              · rfl
              · exact e2 c hc
            · rw [e3]; simp
            · rw [quoteIn_cons', e4]; simp; omega
          · split at h
            · rename_i hn hd
              obtain ⟨u, x, e1, e2, e3, e4⟩ := quoted_form p t n m t'' _ _ hm2 h
              have h10 : (d.toNat == 10) = false := by
                simp only [Bool.or_eq_true, beq_iff_eq] at hd
                simp
                omega
              refine ⟨d :: u, x, ?_, ?_, ?_, ?_⟩
              · rw [quoteIn_cons', e1, h10, hd]; simp
              · intro c hc
                rcases List.mem_cons.1 hc with rfl | hc
                · simp only [Bool.or_eq_true, beq_iff_eq] at hd
                  unfold saidB
                  rcases hd with hd | hd <;> rw [hd] <;> rfl
                · exact e2 c hc
              · rw [e3]; simp
              · rw [quoteIn_cons', e4, h10, hd]; simp; omega
            · cases h
      · rw [quoted_byte p c t' acc k e34 e92] at h
        split at h
        · cases h
        · rename_i hc0
          obtain ⟨u, x, e1, e2, e3, e4⟩ := quoted_form p t n m t' _ _ hm' h
          have h34 : (c.toNat == 34) = false := by
            have := @u8ne c 34
            rw [show (34 : UInt8).toNat = 34 from rfl] at this
            rw [this]; simpa using e34
          have h92 : (c.toNat == 92) = false := by
            have := @u8ne c 92
            rw [show (92 : UInt8).toNat = 92 from rfl] at this
            rw [this]; simpa using e92
          have hr : 32 ≤ c.toNat ∧ c.toNat ≤ 126 := by
            simp only [Bool.or_eq_true, decide_eq_true_eq] at hc0
            omega
          have h10 : (c.toNat == 10) = false := by simp; omega
          refine ⟨c :: u, x, ?_, ?_, ?_, ?_⟩
          · rw [quoteIn_cons', e1, h10, h34, h92]; simp
          · intro d hd
            rcases List.mem_cons.1 hd with rfl | hd
            · unfold saidB; simp [hr]
            · exact e2 d hd
          · rw [e3]; simp
          · rw [quoteIn_cons', e4, h10, h34, h92]; simp; omega

theorem form_quoted (p : Nat) (x : Bytes) : ∀ (u acc : Bytes) (k : Nat), (∀ c ∈ u, saidB c = true) → quoted p (quoteIn u ++ 34 :: x) acc k = .ok ⟨p, 5, acc ++ u, 0⟩ (k + (quoteIn u).length + 1)
  | [], acc, k, _ => by simp [quoteIn, quoted]
  | c :: u, acc, k, h => by
    have hc := h c (List.mem_cons_self ..)
    have hu : ∀ c ∈ u, saidB c = true := fun d hd => h d (List.mem_cons_of_mem _ hd)
    rw [quoteIn_cons']
    by_cases h10 : (c.toNat == 10) = true
    · have hc' : c = 10 := UInt8.toNat_inj.1 (by simpa using h10)
      subst hc'
      show quoted p (92 :: 110 :: (quoteIn u ++ 34 :: x)) acc k = _
      rw [quoted_esc, if_pos (by rfl), form_quoted p x u _ _ hu]
      congr 1
      · simp
      · simp; omega
    · rw [if_neg h10]
      by_cases hq : (c.toNat == 34 || c.toNat == 92) = true
      · rw [if_pos hq]
        show quoted p (92 :: c :: (quoteIn u ++ 34 :: x)) acc k = _
        have hn : ¬ (c.toNat == 110) = true := by
          simp only [Bool.or_eq_true, beq_iff_eq] at hq ⊢
          omega
        rw [quoted_esc, if_neg hn, if_pos hq, form_quoted p x u _ _ hu]
        congr 1
        · simp
        · simp; omega
      · rw [if_neg hq]
        have e34 : c ≠ 34 := by rintro rfl; exact hq rfl
        have e92 : c ≠ 92 := by rintro rfl; exact hq rfl
        show quoted p (c :: (quoteIn u ++ 34 :: x)) acc k = _
        have hr : ¬ (decide (c.toNat < 32) || decide (126 < c.toNat)) = true := by
          unfold saidB at hc
          simp only [Bool.or_eq_true, Bool.and_eq_true, decide_eq_true_eq] at hc ⊢
          rcases hc with hc | hc
          · exact absurd hc h10
          · omega
        rw [quoted_byte p c _ acc k e34 e92, if_neg hr, form_quoted p x u _ _ hu]
        congr 1
        · simp
        · simp; omega

/-! ### a token's text -/
/-- A token without its place. -/
def Tok.bare (t : Tok) : Tok := { t with pos := 0 }

/-- 's' is the text of the token 't' (which has the place 0). -/
inductive Form : Bytes → Tok → Prop
  | name (c : UInt8) (s : Bytes) (hc : letter c = true) (hs : ∀ d ∈ c :: s, within d = true) (hl : (c :: s).length ≤ 32) : Form (c :: s) ⟨0, nameKind (c :: s), c :: s, 0⟩
  | number (c : UInt8) (s : Bytes) (hs : ∀ d ∈ c :: s, digit d = true) (hv : value (c :: s) ≤ 9223372036854775807) (hz : c = 48 → s = []) : Form (c :: s) ⟨0, 4, [], value (c :: s)⟩
  | text (u : Bytes) (hu : ∀ c ∈ u, saidB c = true) : Form (quote u) ⟨0, 5, u, 0⟩
  | two : Form [61, 61] ⟨0, 6, [61, 61], 0⟩
  | sign (c : UInt8) (hc : signs.contains c = true) : Form [c] ⟨0, 6, [c], 0⟩

/-- A rest that ends whatever stands ahead of it. -/
def Sep (x : Bytes) : Prop := ∀ c, x.head? = some c → within c = false ∧ c ≠ 61
/-- A rest that ends this one. -/
def After (s x : Bytes) (t : Tok) : Prop := (t.kind ≠ 5 → t.kind ≠ 6 → ∀ c, x.head? = some c → within c = false) ∧ (s = [61] → x.head? ≠ some 61)
theorem Sep.after {x : Bytes} (h : Sep x) (s : Bytes) (t : Tok) : After s x t := ⟨fun _ _ c hc => (h c hc).1, fun _ hc => (h 61 hc).2 rfl⟩
theorem sep_nil : Sep [] := fun c h => by cases h
theorem sep_cons {c : UInt8} {x : Bytes} (h1 : within c = false) (h2 : c ≠ 61) : Sep (c :: x) := fun d h => by injection h with h; subst h; exact ⟨h1, h2⟩

theorem takeWhile_all (f : UInt8 → Bool) : ∀ (s x : Bytes), (∀ c ∈ s, f c = true) → (∀ c, x.head? = some c → f c = false) → (s ++ x).takeWhile f = s
  | [], x, _, h => by
    cases x with
    | nil => rfl
    | cons c x => simp [List.takeWhile_cons, h c rfl]
  | a :: s, x, hs, h => by
    simp [List.takeWhile_cons, hs a (List.mem_cons_self ..), takeWhile_all f s x (fun c hc => hs c (List.mem_cons_of_mem _ hc)) h]
theorem takeWhile_split (f : UInt8 → Bool) : ∀ (l : Bytes), ∃ x, l = l.takeWhile f ++ x ∧ (∀ c ∈ l.takeWhile f, f c = true) ∧ (∀ c, x.head? = some c → f c = false)
  | [] => ⟨[], rfl, by simp, by simp⟩
  | a :: l => by
    by_cases ha : f a = true
    · obtain ⟨x, e1, e2, e3⟩ := takeWhile_split f l
      refine ⟨x, ?_, ?_, e3⟩
      · rw [List.takeWhile_cons, if_pos ha, List.cons_append, ← e1]
      · rw [List.takeWhile_cons, if_pos ha]
        intro c hc
        rcases List.mem_cons.1 hc with rfl | hc
        · exact ha
        · exact e2 c hc
    · refine ⟨a :: l, by rw [List.takeWhile_cons, if_neg ha]; rfl, by rw [List.takeWhile_cons, if_neg ha]; simp, ?_⟩
      intro c hc
      injection hc with hc
      subst hc
      simpa using ha

theorem digit_within {c : UInt8} (h : digit c = true) : within c = true := by simp [within, h]
theorem letter_within {c : UInt8} (h : letter c = true) : within c = true := by simp [within, h]
theorem letter_not_digit {c : UInt8} (h : letter c = true) : digit c = false := by
  simp only [letter, small, great, digit, Bool.or_eq_true, Bool.and_eq_true, decide_eq_true_eq] at *
  simp
  omega
theorem digit_not_letter {c : UInt8} (h : digit c = true) : letter c = false := by
  rw [← Bool.not_eq_true]
  intro h'
  rw [letter_not_digit h'] at h
  cases h
theorem sign_cases {c : UInt8} (h : signs.contains c = true) : letter c = false ∧ digit c = false ∧ (c.toNat == 34) = false ∧ c ≠ 47 ∧ blank c = false := by
  have : c = 40 ∨ c = 41 ∨ c = 123 ∨ c = 125 ∨ c = 59 ∨ c = 58 ∨ c = 44 ∨ c = 46 ∨ c = 61 ∨ c = 60 ∨ c = 43 ∨ c = 45 ∨ c = 42 := by simpa [signs] using h
  rcases this with rfl | rfl | rfl | rfl | rfl | rfl | rfl | rfl | rfl | rfl | rfl | rfl | rfl <;> decide

theorem form_cut {s x : Bytes} {t : Tok} (h : Form s t) (ha : After s x t) (p : Nat) : cut p (s ++ x) = .ok { t with pos := p } s.length := by
  cases h with
  | name c s hc hs hl =>
    have hk : nameKind (c :: s) ≠ 5 ∧ nameKind (c :: s) ≠ 6 := by
      unfold nameKind
      split
      · decide
      · split <;> decide
    have ht := takeWhile_all within (c :: s) x hs (ha.1 (by have := hk.1; show ((nameKind (c :: s) : Nat) : Int) ≠ 5; omega) (by have := hk.2; show ((nameKind (c :: s) : Nat) : Int) ≠ 6; omega))
    show cut p (c :: (s ++ x)) = _
    simp only [cut, hc, if_true, cutName]
    rw [show c :: (s ++ x) = (c :: s) ++ x from rfl, ht]
    rw [if_neg (by omega)]
  | number c s hs hv hz =>
    have hd := hs c (List.mem_cons_self ..)
    have hx := ha.1 (by simp) (by simp)
    have ht := takeWhile_all digit (c :: s) x hs (fun d hd' => by
      have := hx d hd'
      simp only [within, Bool.or_eq_false_iff] at this
      exact this.1.2)
    show cut p (c :: (s ++ x)) = _
    simp only [cut, digit_not_letter hd, hd, if_true, cutNumber, Bool.false_eq_true, if_false]
    rw [show c :: (s ++ x) = (c :: s) ++ x from rfl, ht]
    rw [if_neg]
    simp only [List.drop_left, Bool.or_eq_true, not_or, Bool.and_eq_true, decide_eq_true_eq]
    refine ⟨⟨by omega, ?_⟩, ?_⟩
    · rintro ⟨h1, h2⟩
      have : c = 48 := by simpa using h1
      rw [hz this] at h2
      simp at h2
    · cases hx' : x.head? with
      | none => simp
      | some d => simp [hx d hx']
  | text u hu =>
    show cut p (34 :: (quoteIn u ++ [34] ++ x)) = _
    have : cut p (34 :: (quoteIn u ++ [34] ++ x)) = quoted p (quoteIn u ++ [34] ++ x) [] 1 := rfl
    rw [this, show quoteIn u ++ [34] ++ x = quoteIn u ++ 34 :: x by simp, form_quoted p x u [] 1 hu]
    simp [quote]
    omega
  | two => rfl
  | sign c hc =>
    obtain ⟨h1, h2, h3, -⟩ := sign_cases hc
    show cut p (c :: x) = _
    simp only [cut, h1, h2, h3, Bool.false_eq_true, if_false]
    rw [if_neg]
    · rfl
    · simp only [Bool.and_eq_true, beq_iff_eq, not_and]
      intro h61
      have : c = 61 := UInt8.toNat_inj.1 h61
      subst this
      exact ha.2 rfl

theorem cut_form {p : Nat} {l : Bytes} {t : Tok} {n : Nat} (hb : ∀ c, l.head? = some c → begins c = true) (h : cut p l = .ok t n) :
    ∃ s x, l = s ++ x ∧ s.length = n ∧ Form s t.bare ∧ After s x t.bare ∧ t = { t.bare with pos := p } := by
  cases l with
  | nil => simp [cut] at h
  | cons b l =>
    have hb0 := hb b rfl
    simp only [cut] at h
    split at h
    · rename_i hl
      unfold cutName at h
      simp only at h
      obtain ⟨x, e1, e2, e3⟩ := takeWhile_split within (b :: l)
      have hcons : (b :: l).takeWhile within = b :: l.takeWhile within := by rw [List.takeWhile_cons, if_pos (letter_within hl)]
      rw [hcons] at e1 e2 h
      split at h
      · cases h
      · rename_i hle
        injection h with h1 h2
        subst h1
        exact ⟨_, x, e1, h2, .name b _ hl e2 (by omega), ⟨fun _ _ => e3, fun h61 hx => by
          injection h61 with h61 _
          subst h61
          cases hl⟩, rfl⟩
    · rename_i hl
      split at h
      · rename_i hd
        unfold cutNumber at h
        simp only at h
        obtain ⟨x, e1, e2, e3⟩ := takeWhile_split digit (b :: l)
        have hcons : (b :: l).takeWhile digit = b :: l.takeWhile digit := by rw [List.takeWhile_cons, if_pos hd]
        rw [hcons] at e1 e2 h
        split at h
        · cases h
        · rename_i hno
          injection h with h1 h2
          subst h1
          simp only [Bool.or_eq_true, not_or, Bool.and_eq_true, decide_eq_true_eq] at hno
          obtain ⟨⟨hv, hz⟩, hw⟩ := hno
          have hdrop : (b :: l).drop (b :: l.takeWhile digit).length = x := by
            conv => lhs; rw [e1]
            rw [List.drop_left]
          rw [hdrop] at hw
          refine ⟨_, x, e1, h2, .number b _ e2 (by omega) ?_, ⟨fun _ _ c hc => ?_, fun h61 hx => ?_⟩, rfl⟩
          · intro h48
            subst h48
            cases hts : l.takeWhile digit with
            | nil => rfl
            | cons => exact absurd ⟨rfl, by rw [hts]; simp⟩ hz
          · rw [hc] at hw
            simpa using hw
          · injection h61 with h61 _
            subst h61
            cases hd
      · rename_i hd
        split at h
        · rename_i h34
          have hb34 : b = 34 := UInt8.toNat_inj.1 (by simpa using h34)
          subst hb34
          obtain ⟨u, x, e1, e2, e3, e4⟩ := quoted_form p t n _ l [] 1 (Nat.le_refl _) h
          refine ⟨quote u, x, ?_, ?_, ?_, ?_, ?_⟩
          · rw [e1]; simp [quote]
          · rw [e4]; simp [quote]; omega
          · rw [e3]; exact .text u e2
          · refine ⟨fun h5 => absurd (by rw [e3]; rfl) h5, fun h61 => ?_⟩
            injection h61 with h61 _
            cases h61
          · rw [e3]; rfl
        · rename_i h34
          have hsg : signs.contains b = true := by
            unfold begins at hb0
            simp only [Bool.or_eq_true] at hb0
            rcases hb0 with ((h | h) | h) | h
            · exact absurd h hl
            · exact absurd h hd
            · exact absurd h h34
            · exact h
          split at h
          · rename_i h61
            injection h with h1 h2
            subst h1
            simp only [Bool.and_eq_true, beq_iff_eq] at h61
            have hb61 : b = 61 := UInt8.toNat_inj.1 h61.1
            subst hb61
            cases l with
            | nil => cases h61.2
            | cons d l =>
              have : d = 61 := by simpa using h61.2
              subst this
              exact ⟨[61, 61], l, rfl, h2, .two, ⟨fun _ h6 => absurd rfl h6, fun he => by cases he⟩, rfl⟩
          · rename_i h61
            injection h with h1 h2
            subst h1
            refine ⟨[b], l, rfl, h2, .sign b hsg, ⟨fun _ h6 => absurd rfl h6, fun he hx => ?_⟩, rfl⟩
            injection he with he
            subst he
            exact h61 (by simp [hx])

/-! ### decimal digits -/
theorem decDigits_step (u : Nat) (h : 10 ≤ u) : Lib.decDigits u = Lib.decDigits (u / 10) ++ [UInt8.ofNat (48 + u % 10)] := by
  conv => lhs; rw [Lib.decDigits, dif_neg (by omega)]
theorem digit_back {c : UInt8} (h : digit c = true) : UInt8.ofNat (48 + (c.toNat - 48)) = c := by
  simp only [digit, Bool.and_eq_true, decide_eq_true_eq] at h
  rw [show 48 + (c.toNat - 48) = c.toNat by omega]
  exact UInt8.ofNat_toNat
theorem decDigits_fold : ∀ (l : Bytes) (v : Nat), 1 ≤ v → (∀ c ∈ l, digit c = true) → Lib.decDigits (l.foldl (fun v c => v * 10 + (c.toNat - 48)) v) = Lib.decDigits v ++ l
  | [], v, _, _ => by simp
  | c :: l, v, hv, hl => by
    have hc := hl c (List.mem_cons_self ..)
    have hc' := hc
    simp only [digit, Bool.and_eq_true, decide_eq_true_eq] at hc'
    rw [List.foldl_cons, decDigits_fold l _ (by omega) (fun d hd => hl d (List.mem_cons_of_mem _ hd)), decDigits_step _ (by omega)]
    rw [show (v * 10 + (c.toNat - 48)) / 10 = v by omega, show (v * 10 + (c.toNat - 48)) % 10 = c.toNat - 48 by omega, digit_back hc]
    simp
theorem decDigits_value {c : UInt8} {s : Bytes} (hs : ∀ d ∈ c :: s, digit d = true) (hz : c = 48 → s = []) : Lib.decDigits (value (c :: s)) = c :: s := by
  have hc := hs c (List.mem_cons_self ..)
  have hc' := hc
  simp only [digit, Bool.and_eq_true, decide_eq_true_eq] at hc'
  have h1 : Lib.decDigits (c.toNat - 48) = [c] := by rw [Lib.decDigits_one (by omega), digit_back hc]
  unfold value
  rw [List.foldl_cons, show 0 * 10 + (c.toNat - 48) = c.toNat - 48 by omega]
  by_cases h48 : c = 48
  · rw [hz h48]; exact h1
  · have : c.toNat ≠ 48 := fun e => h48 (UInt8.toNat_inj.1 e)
    rw [decDigits_fold s _ (by omega) (fun d hd => hs d (List.mem_cons_of_mem _ hd)), h1]
    rfl
/-- The digits of a number: digits, no nought ahead, and their value. -/
theorem decDigits_form (u : Nat) : ∃ c s, Lib.decDigits u = c :: s ∧ (∀ d ∈ c :: s, digit d = true) ∧ value (c :: s) = u ∧ (c = 48 → s = [] ∧ u = 0) := by
  induction u using Nat.strongRecOn with
  | _ u ih =>
    have hd : ∀ m, m < 10 → digit (UInt8.ofNat (48 + m)) = true ∧ (UInt8.ofNat (48 + m)).toNat = 48 + m := by
      intro m hm
      have : (UInt8.ofNat (48 + m)).toNat = 48 + m := by rw [UInt8.toNat_ofNat', Nat.mod_eq_of_lt (by omega)]
      refine ⟨?_, this⟩
      simp only [digit, this, Bool.and_eq_true, decide_eq_true_eq]
      omega
    by_cases h : u < 10
    · refine ⟨UInt8.ofNat (48 + u), [], Lib.decDigits_one h, ?_, ?_, ?_⟩
      · intro d hd'
        rw [List.mem_singleton] at hd'
        subst hd'
        exact (hd u h).1
      · unfold value
        rw [List.foldl_cons, List.foldl_nil, (hd u h).2]
        omega
      · intro e
        refine ⟨rfl, ?_⟩
        have := (hd u h).2
        rw [e] at this
        have h48 : (48 : UInt8).toNat = 48 := rfl
        omega
    · obtain ⟨c, s, e1, e2, e3, e4⟩ := ih (u / 10) (by omega)
      refine ⟨c, s ++ [UInt8.ofNat (48 + u % 10)], ?_, ?_, ?_, ?_⟩
      · rw [decDigits_step u (by omega), e1]; simp
      · intro d hd'
        rw [← List.cons_append, List.mem_append] at hd'
        rcases hd' with hd' | hd'
        · exact e2 d hd'
        · rw [List.mem_singleton] at hd'
          subst hd'
          exact (hd _ (by omega)).1
      · rw [← List.cons_append]
        unfold value at e3 ⊢
        rw [List.foldl_append, e3]
        rw [List.foldl_cons, List.foldl_nil, (hd (u % 10) (by omega)).2]
        omega
      · intro e
        have := (e4 e).2
        omega

/-! ### written -/
theorem form_begins {s : Bytes} {t : Tok} (h : Form s t) : ∃ c l, s = c :: l ∧ begins c = true := by
  cases h with
  | name c s hc _ _ => exact ⟨c, s, rfl, by simp [begins, hc]⟩
  | number c s hs _ _ => exact ⟨c, s, rfl, by simp [begins, hs c (List.mem_cons_self ..)]⟩
  | text u _ => exact ⟨34, _, rfl, rfl⟩
  | two => exact ⟨61, _, rfl, rfl⟩
  | sign c hc => exact ⟨c, [], rfl, by simp only [begins, hc, Bool.or_true]⟩
theorem form_raw {s : Bytes} {t : Tok} (h : Form s t) : raw t = some s := by
  cases h with
  | name c s hc hs hl =>
    unfold raw
    rw [if_pos]
    unfold nameKind
    split
    · simp
    · split <;> simp
  | number c s hs hv hz =>
    unfold raw
    rw [if_neg (by simp), if_pos rfl, if_neg (by simp)]
    show some (Lib.decDigits (value (c :: s))) = _
    rw [decDigits_value hs hz]
  | text u hu => rfl
  | two => rfl
  | sign c hc => rfl
theorem raw_bare (t : Tok) : raw t.bare = raw t := rfl
theorem form_pos {s : Bytes} {t : Tok} (h : Form s t) : t.pos = 0 := by cases h <;> rfl
theorem written_of_form {s : Bytes} {t : Tok} (h : Form s t.bare) : written t = (s, true) := by
  have hr := form_raw h
  obtain ⟨c, l, rfl, hb⟩ := form_begins h
  rw [raw_bare] at hr
  have hc := form_cut h (sep_nil.after _ _) 0
  rw [List.append_nil] at hc
  unfold written
  rw [hr]
  simp only [hb, if_true, held, hc]
  simp [Tok.bare]
theorem form_of_written {t : Tok} (h : (written t).2 = true) : Form (written t).1 t.bare := by
  unfold written at h ⊢
  cases hr : raw t with
  | none => rw [hr] at h; cases h
  | some s =>
    rw [hr] at h
    cases s with
    | nil => cases h
    | cons c l =>
      simp only at h ⊢
      by_cases hb : begins c = true
      · rw [if_pos hb] at h ⊢
        unfold held at h
        cases hcut : cut 0 (c :: l) with
        | bad y x => simp [hcut] at h
        | ok x n =>
          simp only [hcut, Bool.and_eq_true, beq_iff_eq] at h
          obtain ⟨s, x', e1, e2, e3, e4, e5⟩ := cut_form (fun d hd => by injection hd with hd; subst hd; exact hb) hcut
          have hx : x' = [] := by
            have := congrArg List.length e1
            rw [List.length_append] at this
            exact List.length_eq_zero_iff.1 (by omega)
          rw [hx, List.append_nil] at e1
          rw [e1]
          have : x.bare = t.bare := by rw [h.2]; rfl
          rw [← this]
          exact e3
      · rw [if_neg hb] at h
        cases h

end Go.Proofs.YtbhdkkkaeabkhaaGreatDoor.Lx
