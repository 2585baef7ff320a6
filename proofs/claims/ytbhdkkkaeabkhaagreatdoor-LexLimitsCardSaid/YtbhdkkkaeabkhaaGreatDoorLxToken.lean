/-
  The walk of (*cutter).token.
-/
import Derived.Test.YtbhdkkkaeabkhaaGreatDoorLxText
namespace Go.Proofs.YtbhdkkkaeabkhaaGreatDoor
open Go.RowKit
set_option linter.unusedSimpArgs false
set_option linter.unusedVariables false

theorem set4 {w : World} {g t : Nat} {a b c d a' b' c' d' : Value} (h : w.heap[g]? = some (.cells #[a, b, c, d] t (0, 0))) :
    ((((w.setCell ⟨g, 0, none⟩ a').setCell ⟨g, 1, none⟩ b').setCell ⟨g, 2, none⟩ c').setCell ⟨g, 3, none⟩ d').heap[g]? = some (.cells #[a', b', c', d'] t (0, 0)) := by
  simp [World.setCell, Array.getElem?_modify, h]

section
variable {w w' : World} {b k n : Nat} {s : ByteArray} {p : Int} {r : Lx.Res} {t : Lx.Tok} {e : Ending}
theorem ResIs.ok' (hr : r = .ok t n) (h : ResIs p b s k w r e w') : e = .returned (.tuple #[.agg #[.int .i64 t.pos, .int .i64 t.kind, .string ⟨t.s.toArray⟩, .int .i64 t.n], .pointer none]) ∧ w.grownBy w' (some b) ∧ Cu w' b s (k + n) := by
  subst hr; exact ⟨h.2.1, h.1, h.2.2⟩
theorem ResIs.bad' {y x : Nat} (hr : r = .bad y x) (h : ResIs p b s k w r e w') :
    ∃ g j, e = .returned (.tuple #[.agg #[.int .i64 p, .int .i64 0, .string ⟨#[]⟩, .int .i64 0], .pointer (some ⟨g, 0, none⟩)]) ∧ w.grownBy w' (some b) ∧ IsRef w' g x y ∧ w.heap.size ≤ g ∧ Cu w' b s j := by
  subst hr
  obtain ⟨hg, g, j, h1, h2, h3, h4⟩ := h
  exact ⟨g, j, h1, hg, h2, h3, h4⟩
theorem resBad3 {wq : World} {g g2 j y x : Nat} (hr : r = .bad y x) (hg : w.grownBy wq (some b)) (hC : Cu wq b s j) (hbg : b < g) (hwg : w.heap.size ≤ g) (hR : IsRef wq g2 x y) (h2 : g < g2) (c0 c1 c2 c3 : Value) :
    ResIs p b s k w r (.returned (.tuple #[.agg #[.int .i64 p, .int .i64 0, .string ⟨#[]⟩, .int .i64 0], .pointer (some ⟨g2, 0, none⟩)]))
      ((((wq.setCell ⟨g, 0, none⟩ c0).setCell ⟨g, 1, none⟩ c1).setCell ⟨g, 2, none⟩ c2).setCell ⟨g, 3, none⟩ c3) := by
  subst hr
  refine ⟨grown_new hg ((((grown_set _ _ _ _).trans (grown_set _ _ _ _)).trans (grown_set _ _ _ _)).trans (grown_set _ _ _ _)) hwg, g2, j, rfl, ?_, by omega, ?_⟩
  · have hne : g2 ≠ g := by omega
    exact (Below.heap_setCell _ ⟨g, 3, none⟩ _ g2 hne).trans ((Below.heap_setCell _ ⟨g, 2, none⟩ _ g2 hne).trans ((Below.heap_setCell _ ⟨g, 1, none⟩ _ g2 hne).trans ((Below.heap_setCell _ ⟨g, 0, none⟩ _ g2 hne).trans hR)))
  · exact ((((hC.far (by omega) _ _).far (by omega) _ _).far (by omega) _ _).far (by omega) _ _)
end

section
variable {s : ByteArray} {k : Nat} (hk : k < s.size)
theorem cut_name (h : Lx.letter (s[k]'hk) = true) : Lx.cut k (s.data.toList.drop k) = Lx.cutName k (s.data.toList.drop k) := by
  rw [byte_at s k hk]; simp [Lx.cut, h]
theorem cut_number (h : Lx.letter (s[k]'hk) = false) (h1 : Lx.digit (s[k]'hk) = true) : Lx.cut k (s.data.toList.drop k) = Lx.cutNumber k (s.data.toList.drop k) := by
  rw [byte_at s k hk]; simp [Lx.cut, h, h1]
theorem cut_text (h : Lx.letter (s[k]'hk) = false) (h1 : Lx.digit (s[k]'hk) = false) (h2 : (s[k]'hk).toNat = 34) : Lx.cut k (s.data.toList.drop k) = Lx.quoted k (s.data.toList.drop (k + 1)) [] 1 := by
  rw [byte_at s k hk]; simp [Lx.cut, h, h1, h2]
theorem cut_both (h : Lx.letter (s[k]'hk) = false) (h1 : Lx.digit (s[k]'hk) = false) (h2 : (s[k]'hk).toNat = 61) (hk2 : k + 1 < s.size) (h3 : (s[k + 1]'hk2).toNat = 61) : Lx.cut k (s.data.toList.drop k) = .ok ⟨k, 6, [61, 61], 0⟩ 2 := by
  have e : s[k + 1]'hk2 = 61 := (u8_eq _ 61 (by decide)).1 h3
  rw [byte_at s k hk, byte_at s (k + 1) hk2]; simp [Lx.cut, h, h1, h2, e]
theorem cut_one (h : Lx.letter (s[k]'hk) = false) (h1 : Lx.digit (s[k]'hk) = false) (h2 : (s[k]'hk).toNat ≠ 34) (h3 : (s[k]'hk).toNat = 61 → ∀ hk2 : k + 1 < s.size, (s[k + 1]'hk2).toNat ≠ 61) : Lx.cut k (s.data.toList.drop k) = .ok ⟨k, 6, [s[k]'hk], 0⟩ 1 := by
  rw [byte_at s k hk]
  have e : ((s[k]'hk).toNat == 61 && (s.data.toList.drop (k + 1)).head? == some 61) = false := by
    rw [Bool.and_eq_false_iff]
    by_cases hq : (s[k]'hk).toNat = 61
    · right
      by_cases hk2 : k + 1 < s.size
      · rw [byte_at s (k + 1) hk2]
        have := h3 hq hk2
        have e : ¬ s[k + 1]'hk2 = 61 := fun he => this (by rw [he]; rfl)
        simpa using e
      · rw [List.drop_eq_nil_of_le (by rw [len_size]; omega)]
        rfl
    · left; simpa using hq
  show (if Lx.letter (s[k]'hk) then _ else if Lx.digit (s[k]'hk) then _ else if (s[k]'hk).toNat == 34 then _ else if ((s[k]'hk).toNat == 61 && (s.data.toList.drop (k + 1)).head? == some 61) then _ else _) = _
  rw [e, h, h1]
  simp [h2]
end
theorem sign_small {c : UInt8} (h : Lx.begins c = true) (h0 : Lx.letter c = false) (h1 : Lx.digit c = false) (h2 : ¬ c.toNat = 34) : c.toNat < 128 := by
  simp only [Lx.begins, h0, h1, Bool.false_or, Bool.or_eq_true, beq_iff_eq] at h
  rcases h with h | h
  · exact absurd h h2
  · have := List.contains_iff_mem.1 h
    have hall : ∀ x ∈ Lx.signs, x.toNat < 128 := by decide
    exact hall _ this
theorem encode_small (c : UInt8) (h : c.toNat < 128) : Utf8.encode (c.toNat : Int) = ⟨#[c]⟩ := by
  have hv : Utf8.valid (c.toNat : Int) = true := by
    simp [Utf8.valid]; omega
  unfold Utf8.encode
  simp [hv, h]

set_option maxRecDepth 100000 in
set_option maxHeartbeats 8000000 in
theorem lexToken (s : ByteArray) (b k : Nat) (w : World) (hc : Cu w b s k) (hk : k < s.size) (hs : s.size ≤ 140737488351232) (hG : GS w) (hb : NG ≤ b) (hbeg : Lx.begins (s[k]'hk) = true) :
    Calls Tryz.prog 59 #[.pointer (some ⟨b, 0, none⟩)] w
      (ResIs k b s k w (Lx.cut k (s.data.toList.drop k))) := by
  have HC0 := Lib.hid hc
  have hbw := hc.lt
  have hi : (k : Int) < (s.size : Int) := by omega
  have hi0 : (0 : Int) ≤ (k : Int) := by omega
  have hCb := hc.alloc (.cells #[.int .i64 0, .int .i64 0, .string ⟨#[]⟩, .int .i64 0] 26)
  have c0 := hCb.c0
  have c1 := hCb.c1
  have cf1 := hCb.f1
  clear hc hCb
  have k1 : (k : Int) ≤ 140737488351232 := by omega
  go_enter Tryz.func59, Tryz.ntmps59
  go_wp2
  go_quiet (fail)
  obtain ⟨w3, hw3⟩ : ∃ w3, (w.alloc (.cells #[.int .i64 0, .int .i64 0, .string ⟨#[]⟩, .int .i64 0] 26)).drewN nq = w3 := ⟨_, rfl⟩
  have hz3 : w3.heap[w.heap.size]? = some (.cells #[.int .i64 0, .int .i64 0, .string ⟨#[]⟩, .int .i64 0] 26 (0, 0)) := by rw [← hw3]; exact heap_alloc_new w _
  have hg3 : w.grownBy w3 (some b) := by rw [← hw3]; exact (World.grownBy_alloc _ _ _).trans (grown_drewN _ _ _)
  have hC3 : Cu w3 b s k := by rw [← hw3]; exact (HC0.out.alloc _).drewN _
  have hs3 : w3.heap.size = w.heap.size + 1 := by rw [← hw3]; simp
  rw [hw3]
  clear c0 c1 cf1 hw3
  have c0 := hC3.c0
  have c1 := hC3.c1
  have cf1 := hC3.f1
  go_upto_region 3 with fail
  clear c0 c1 cf1
  have hg4 : w.grownBy (w3.alloc (.cells #[.int .i64 k, .int .i64 0, .string ⟨#[]⟩, .int .i64 0] 26)) (some b) := hg3.trans (World.grownBy_alloc _ _ _)
  have hC4 := hC3.alloc (.cells #[.int .i64 k, .int .i64 0, .string ⟨#[]⟩, .int .i64 0] 26)
  have hz4 := heap_alloc hz3 (.cells #[.int .i64 k, .int .i64 0, .string ⟨#[]⟩, .int .i64 0] 26)
  have ht4 := heap_alloc_new w3 (.cells #[.int .i64 k, .int .i64 0, .string ⟨#[]⟩, .int .i64 0] 26)
  have hs4 : w.heap.size + 2 ≤ (w3.alloc (.cells #[.int .i64 k, .int .i64 0, .string ⟨#[]⟩, .int .i64 0] 26)).heap.size := by simp; omega
  obtain ⟨w4, hw4⟩ : ∃ w4, w3.alloc (.cells #[.int .i64 k, .int .i64 0, .string ⟨#[]⟩, .int .i64 0] 26) = w4 := ⟨_, rfl⟩
  rw [hw4] at hg4 hC4 hz4 ht4 hs4 ⊢
  rw [hs3] at ht4
  have hzl : w.heap.size < w4.heap.size := by omega
  have hgl' : w.heap.size + 1 < w4.heap.size := by omega
  have hbl4 : b < w4.heap.size := by omega
  have HG4 := Lib.hid hg4
  have HC4 := Lib.hid hC4
  have HZ4 := Lib.hid hz4
  have hG4 : GS w4 := hG.grown hg4 hb
  clear hw4 hz3 hg3 hC3
  obtain ⟨t0, t1, t2, t3⟩ := four_cells ht4
  obtain ⟨tf0, tf1, tf2, tf3⟩ := four_free ht4
  have HT4 := Lib.hid ht4
  clear hg4 hC4 hz4 ht4
  by_cases hL : Lx.letter (s[k]'hk) = true
  ·
    have HX := Lib.hid (cut_name hk hL)
    cases hr : Lx.cutName k (s.data.toList.drop k) with
    | ok t n =>
      have HR := Lib.hid hr
      clear hr
      go_wp2_with (first | (go_at_call 84; refine (lexLetter _ _).mono ?_; rintro e w' ⟨rfl, rfl⟩) | (go_at_call 87; refine (lexName s b k w4 HC4.out hk hs hG4 hb hL).mono ?_; intro e w5 hres; obtain ⟨rfl, hg5, hC5⟩ := ResIs.ok' HR.out hres; clear hres; have hz5 := (hg5.block _ hzl (by simp; omega)).trans HZ4.out; obtain ⟨z0, z1, z2, z3⟩ := four_cells hz5; obtain ⟨zf0, zf1, zf2, zf3⟩ := four_free hz5))
      refine bodyPost_ret (v := .tuple #[.agg #[.int .i64 t.pos, .int .i64 t.kind, .string ⟨t.s.toArray⟩, .int .i64 t.n], .pointer none]) (by simp [results, Tryz.results59, go_sem, z0, z1, z2, z3, zf0, zf1, zf2, zf3]) rfl ?_
      exact resOk (wq := w5) (g := w.heap.size) (m := k + n) (t := t) (n := n) (p := (k : Int)) (a0 := t.pos) (a1 := t.kind) (a2 := ⟨t.s.toArray⟩) (a3 := t.n) (HX.out.trans HR.out) rfl rfl rfl (by rfl) rfl (HG4.out.trans hg5) hC5 hbw (Nat.le_refl _) _ _ _ _
    | bad y x =>
      have HR := Lib.hid hr
      clear hr
      go_wp2_with (first | (go_at_call 84; refine (lexLetter _ _).mono ?_; rintro e w' ⟨rfl, rfl⟩) | (go_at_call 87; refine (lexName s b k w4 HC4.out hk hs hG4 hb hL).mono ?_; intro e w5 hres; obtain ⟨g, j, rfl, hg5, hR5, hgl, hC5⟩ := ResIs.bad' HR.out hres; clear hres; have hz5 := (hg5.block _ hzl (by simp; omega)).trans HZ4.out; obtain ⟨z0, z1, z2, z3⟩ := four_cells hz5; obtain ⟨zf0, zf1, zf2, zf3⟩ := four_free hz5))
      refine bodyPost_ret (v := .tuple #[.agg #[.int .i64 k, .int .i64 0, .string ⟨#[]⟩, .int .i64 0], .pointer (some ⟨g, 0, none⟩)]) (by simp [results, Tryz.results59, go_sem, z0, z1, z2, z3, zf0, zf1, zf2, zf3]) rfl ?_
      exact resBad3 (wq := w5) (g := w.heap.size) (g2 := g) (j := j) (y := y) (x := x) (p := (k : Int)) (HX.out.trans HR.out) (HG4.out.trans hg5) hC5 hbw (Nat.le_refl _) hR5 (by omega) _ _ _ _
  · have hL0 : Lx.letter (s[k]'hk) = false := by simpa using hL
    clear hL
    by_cases hD : Lx.digit (s[k]'hk) = true
    ·
      have HX := Lib.hid (cut_number hk hL0 hD)
      cases hr : Lx.cutNumber k (s.data.toList.drop k) with
      | ok t n =>
        have HR := Lib.hid hr
        clear hr
        go_wp2_with (first | (go_at_call 84; refine (lexLetter _ _).mono ?_; rintro e w' ⟨rfl, rfl⟩) | (go_at_call 85; refine (lexDigit _ _).mono ?_; rintro e w' ⟨rfl, rfl⟩) | (go_at_call 88; refine (lexNumber s b k w4 HC4.out hk hs hG4 hb hD).mono ?_; intro e w5 hres; obtain ⟨rfl, hg5, hC5⟩ := ResIs.ok' HR.out hres; clear hres; have hz5 := (hg5.block _ hzl (by simp; omega)).trans HZ4.out; obtain ⟨z0, z1, z2, z3⟩ := four_cells hz5; obtain ⟨zf0, zf1, zf2, zf3⟩ := four_free hz5))
        refine bodyPost_ret (v := .tuple #[.agg #[.int .i64 t.pos, .int .i64 t.kind, .string ⟨t.s.toArray⟩, .int .i64 t.n], .pointer none]) (by simp [results, Tryz.results59, go_sem, z0, z1, z2, z3, zf0, zf1, zf2, zf3]) rfl ?_
        exact resOk (wq := w5) (g := w.heap.size) (m := k + n) (t := t) (n := n) (p := (k : Int)) (a0 := t.pos) (a1 := t.kind) (a2 := ⟨t.s.toArray⟩) (a3 := t.n) (HX.out.trans HR.out) rfl rfl rfl (by rfl) rfl (HG4.out.trans hg5) hC5 hbw (Nat.le_refl _) _ _ _ _
      | bad y x =>
        have HR := Lib.hid hr
        clear hr
        go_wp2_with (first | (go_at_call 84; refine (lexLetter _ _).mono ?_; rintro e w' ⟨rfl, rfl⟩) | (go_at_call 85; refine (lexDigit _ _).mono ?_; rintro e w' ⟨rfl, rfl⟩) | (go_at_call 88; refine (lexNumber s b k w4 HC4.out hk hs hG4 hb hD).mono ?_; intro e w5 hres; obtain ⟨g, j, rfl, hg5, hR5, hgl, hC5⟩ := ResIs.bad' HR.out hres; clear hres; have hz5 := (hg5.block _ hzl (by simp; omega)).trans HZ4.out; obtain ⟨z0, z1, z2, z3⟩ := four_cells hz5; obtain ⟨zf0, zf1, zf2, zf3⟩ := four_free hz5))
        refine bodyPost_ret (v := .tuple #[.agg #[.int .i64 k, .int .i64 0, .string ⟨#[]⟩, .int .i64 0], .pointer (some ⟨g, 0, none⟩)]) (by simp [results, Tryz.results59, go_sem, z0, z1, z2, z3, zf0, zf1, zf2, zf3]) rfl ?_
        exact resBad3 (wq := w5) (g := w.heap.size) (g2 := g) (j := j) (y := y) (x := x) (p := (k : Int)) (HX.out.trans HR.out) (HG4.out.trans hg5) hC5 hbw (Nat.le_refl _) hR5 (by omega) _ _ _ _
    · have hD0 : Lx.digit (s[k]'hk) = false := by simpa using hD
      clear hD
      by_cases h34 : (s[k]'hk).toNat = 34
      · have B34 : (((s[k]'hk).toNat : Int) == 34) = true := by simp; omega
        have H34 := Lib.hid h34
        clear h34
        have HX := Lib.hid (cut_text hk hL0 hD0 H34.out)
        cases hr : Lx.quoted k (s.data.toList.drop (k + 1)) [] 1 with
        | ok t n =>
          have HR := Lib.hid hr
          clear hr
          go_wp2_with (first | (go_at_call 84; refine (lexLetter _ _).mono ?_; rintro e w' ⟨rfl, rfl⟩) | (go_at_call 85; refine (lexDigit _ _).mono ?_; rintro e w' ⟨rfl, rfl⟩) | (go_at_call 89; refine (lexText s b k w4 HC4.out hk hs hG4 hb).mono ?_; intro e w5 hres; obtain ⟨rfl, hg5, hC5⟩ := ResIs.ok' HR.out hres; clear hres; have hz5 := (hg5.block _ hzl (by simp; omega)).trans HZ4.out; obtain ⟨z0, z1, z2, z3⟩ := four_cells hz5; obtain ⟨zf0, zf1, zf2, zf3⟩ := four_free hz5))
          refine bodyPost_ret (v := .tuple #[.agg #[.int .i64 t.pos, .int .i64 t.kind, .string ⟨t.s.toArray⟩, .int .i64 t.n], .pointer none]) (by simp [results, Tryz.results59, go_sem, z0, z1, z2, z3, zf0, zf1, zf2, zf3]) rfl ?_
          exact resOk (wq := w5) (g := w.heap.size) (m := k + n) (t := t) (n := n) (p := (k : Int)) (a0 := t.pos) (a1 := t.kind) (a2 := ⟨t.s.toArray⟩) (a3 := t.n) (HX.out.trans HR.out) rfl rfl rfl (by rfl) rfl (HG4.out.trans hg5) hC5 hbw (Nat.le_refl _) _ _ _ _
        | bad y x =>
          have HR := Lib.hid hr
          clear hr
          go_wp2_with (first | (go_at_call 84; refine (lexLetter _ _).mono ?_; rintro e w' ⟨rfl, rfl⟩) | (go_at_call 85; refine (lexDigit _ _).mono ?_; rintro e w' ⟨rfl, rfl⟩) | (go_at_call 89; refine (lexText s b k w4 HC4.out hk hs hG4 hb).mono ?_; intro e w5 hres; obtain ⟨g, j, rfl, hg5, hR5, hgl, hC5⟩ := ResIs.bad' HR.out hres; clear hres; have hz5 := (hg5.block _ hzl (by simp; omega)).trans HZ4.out; obtain ⟨z0, z1, z2, z3⟩ := four_cells hz5; obtain ⟨zf0, zf1, zf2, zf3⟩ := four_free hz5))
          refine bodyPost_ret (v := .tuple #[.agg #[.int .i64 k, .int .i64 0, .string ⟨#[]⟩, .int .i64 0], .pointer (some ⟨g, 0, none⟩)]) (by simp [results, Tryz.results59, go_sem, z0, z1, z2, z3, zf0, zf1, zf2, zf3]) rfl ?_
          exact resBad3 (wq := w5) (g := w.heap.size) (g2 := g) (j := j) (y := y) (x := x) (p := (k : Int)) (HX.out.trans HR.out) (HG4.out.trans hg5) hC5 hbw (Nat.le_refl _) hR5 (by omega) _ _ _ _
      · have B34 : (((s[k]'hk).toNat : Int) == 34) = false := by simp; omega
        have h128 := sign_small hbeg hL0 hD0 h34
        have HE := Lib.hid (encode_small _ h128)
        have hu : ((s[k]'hk).toNat : Int) < 256 := by omega
        go_upto_region 9 with (first | (go_at_call 84; refine (lexLetter _ _).mono ?_; rintro e w' ⟨rfl, rfl⟩) | (go_at_call 85; refine (lexDigit _ _).mono ?_; rintro e w' ⟨rfl, rfl⟩))
        go_upto_region 10 with fail
        rw [HE.out]
        have hg5 : w.grownBy ((w4.setCell ⟨w.heap.size + 1, 1, none⟩ (.int .i64 6)).setCell ⟨w.heap.size + 1, 2, none⟩ (.string ⟨#[s[k]'hk]⟩)) (some b) := grown_new HG4.out ((grown_set _ _ _ _).trans (grown_set _ _ _ _)) (by omega)
        have hC5 : Cu ((w4.setCell ⟨w.heap.size + 1, 1, none⟩ (.int .i64 6)).setCell ⟨w.heap.size + 1, 2, none⟩ (.string ⟨#[s[k]'hk]⟩)) b s k := (HC4.out.far (by omega) _ _).far (by omega) _ _
        have hz5 : ((w4.setCell ⟨w.heap.size + 1, 1, none⟩ (.int .i64 6)).setCell ⟨w.heap.size + 1, 2, none⟩ (.string ⟨#[s[k]'hk]⟩)).heap[w.heap.size]? = _ := (Below.heap_setCell _ ⟨w.heap.size + 1, 2, none⟩ _ _ (by simp)).trans ((Below.heap_setCell _ ⟨w.heap.size + 1, 1, none⟩ _ _ (by simp)).trans HZ4.out)
        have ht5 : ((w4.setCell ⟨w.heap.size + 1, 1, none⟩ (.int .i64 6)).setCell ⟨w.heap.size + 1, 2, none⟩ (.string ⟨#[s[k]'hk]⟩)).heap[w.heap.size + 1]? = some (.cells #[.int .i64 k, .int .i64 6, .string ⟨#[s[k]'hk]⟩, .int .i64 0] 26 (0, 0)) := by
          simp [World.setCell, Array.getElem?_modify, HT4.out]
        obtain ⟨w5, hw5⟩ : ∃ w5, (w4.setCell ⟨w.heap.size + 1, 1, none⟩ (.int .i64 6)).setCell ⟨w.heap.size + 1, 2, none⟩ (.string ⟨#[s[k]'hk]⟩) = w5 := ⟨_, rfl⟩
        rw [hw5] at hg5 hC5 hz5 ht5 ⊢
        clear hw5 t0 t1 t2 t3 tf0 tf1 tf2 tf3
        have c1 := hC5.c1
        have cf1 := hC5.f1
        go_upto_region 11 with fail
        have hg6 : w.grownBy (w5.setCell ⟨b, 1, none⟩ (.int .i64 (k + 1))) (some b) := hg5.trans (grown_set _ _ _ _)
        have hC6 := hC5.set (k + 1) (k + 1) (by omega)
        have hz6 := (Below.heap_setCell w5 ⟨b, 1, none⟩ (.int .i64 (k + 1)) w.heap.size (by simp; omega)).trans hz5
        have ht6 := (Below.heap_setCell w5 ⟨b, 1, none⟩ (.int .i64 (k + 1)) (w.heap.size + 1) (by simp; omega)).trans ht5
        obtain ⟨w6, hw6⟩ : ∃ w6, w5.setCell ⟨b, 1, none⟩ (.int .i64 (k + 1)) = w6 := ⟨_, rfl⟩
        rw [hw6] at hg6 hC6 hz6 ht6 ⊢
        clear hw6 c1 cf1 hg5 hC5 hz5 ht5
        have c0 := hC6.c0
        have c1 := hC6.c1
        have cf1 := hC6.f1
        have HG6 := Lib.hid hg6
        have HC6 := Lib.hid hC6
        have HZ6 := Lib.hid hz6
        have HT6 := Lib.hid ht6
        obtain ⟨t0, t1, t2, t3⟩ := four_cells ht6
        obtain ⟨tf0, tf1, tf2, tf3⟩ := four_free ht6
        obtain ⟨z0, z1, z2, z3⟩ := four_cells hz6
        obtain ⟨zf0, zf1, zf2, zf3⟩ := four_free hz6
        clear hg6 hC6 hz6 ht6
        have H34 := Lib.hid h34
        clear h34
        have hend : ∀ (nq : Nat), (((s[k]'hk).toNat : Int) == 61) = false ∨ ¬ k + 1 < s.size ∨ (∃ hk2 : k + 1 < s.size, (((s[k + 1]'hk2).toNat : Int) == 61) = false) →
            ResIs k b s k w (Lx.cut k (s.data.toList.drop k)) (.returned (.tuple #[.agg #[.int .i64 k, .int .i64 6, .string ⟨#[s[k]'hk]⟩, .int .i64 0], .pointer none]))
              (((((w6.drewN nq).setCell ⟨w.heap.size, 0, none⟩ (.int .i64 k)).setCell ⟨w.heap.size, 1, none⟩ (.int .i64 6)).setCell ⟨w.heap.size, 2, none⟩ (.string ⟨#[s[k]'hk]⟩)).setCell ⟨w.heap.size, 3, none⟩ (.int .i64 0)) := by
          intro nq hor
          refine resOk (wq := w6.drewN nq) (g := w.heap.size) (m := k + 1) (t := ⟨k, 6, [s[k]'hk], 0⟩) (n := 1) (p := (k : Int)) (a0 := k) (a1 := 6) (a2 := ⟨#[s[k]'hk]⟩) (a3 := 0)
            (cut_one hk hL0 hD0 H34.out ?_) rfl rfl rfl (by rfl) rfl (HG6.out.trans (grown_drewN _ _ _)) (HC6.out.drewN _) hbw (Nat.le_refl _) _ _ _ _
          intro h61 hk2 h2
          rcases hor with h | h | ⟨_, h⟩
          · rw [h61] at h; exact absurd h (by decide)
          · exact h hk2
          · rw [h2] at h; exact absurd h (by decide)
        by_cases h61 : (s[k]'hk).toNat = 61
        · have B61 : (((s[k]'hk).toNat : Int) == 61) = true := by simp; omega
          have H61 := Lib.hid h61
          clear h61
          by_cases hk2 : k + 1 < s.size
          · have hlt : (k : Int) + 1 < (s.size : Int) := by omega
            have hlt0 : (0 : Int) ≤ (k : Int) + 1 := by omega
            by_cases hn61 : (s[k + 1]'hk2).toNat = 61
            · have N61 : (((s[k + 1]'hk2).toNat : Int) == 61) = true := by simp; omega
              have HN61 := Lib.hid hn61
              clear hn61
              go_quiet (fail)
              go_wp2
              clear hend
              refine bodyPost_ret (v := .tuple #[.agg #[.int .i64 k, .int .i64 6, .string ⟨#[61, 61]⟩, .int .i64 0], .pointer none]) (by simp [results, Tryz.results59, go_sem, z0, z1, z2, z3, zf0, zf1, zf2, zf3]) rfl ?_
              have hg7 : w.grownBy ((w6.drewN nq).setCell ⟨w.heap.size + 1, 2, none⟩ (.string ⟨#[61, 61]⟩)) (some b) := grown_new HG6.out ((grown_drewN w6 nq (some (w.heap.size + 1))).trans (grown_set _ _ _ _)) (by omega)
              have hg8 : w.grownBy (((w6.drewN nq).setCell ⟨w.heap.size + 1, 2, none⟩ (.string ⟨#[61, 61]⟩)).setCell ⟨b, 1, none⟩ (.int .i64 ((k : Int) + 1 + 1))) (some b) := hg7.trans (grown_set _ _ _ _)
              have hC8 : Cu (((w6.drewN nq).setCell ⟨w.heap.size + 1, 2, none⟩ (.string ⟨#[61, 61]⟩)).setCell ⟨b, 1, none⟩ (.int .i64 ((k : Int) + 1 + 1))) b s (k + 2) := ((HC6.out.drewN nq).far (by omega) _ _).set _ _ (by omega)
              generalize ((w6.drewN nq).setCell ⟨w.heap.size + 1, 2, none⟩ (.string ⟨#[61, 61]⟩)).setCell ⟨b, 1, none⟩ (.int .i64 ((k : Int) + 1 + 1)) = w8 at hg8 hC8 ⊢
              exact resOk (wq := w8) (g := w.heap.size) (m := k + 2) (t := ⟨k, 6, [61, 61], 0⟩) (n := 2) (p := (k : Int)) (a0 := k) (a1 := 6) (a2 := ⟨#[61, 61]⟩) (a3 := 0)
                (cut_both hk hL0 hD0 H61.out hk2 HN61.out) rfl rfl rfl (by rfl) rfl hg8 hC8 hbw (Nat.le_refl _) _ _ _ _
            · have N61 : (((s[k + 1]'hk2).toNat : Int) == 61) = false := by simp; omega
              clear hn61
              go_quiet (fail)
              have hE := hend nq (.inr (.inr ⟨hk2, N61⟩))
              clear hend
              go_wp2
              refine bodyPost_ret (v := .tuple #[.agg #[.int .i64 k, .int .i64 6, .string ⟨#[s[k]'hk]⟩, .int .i64 0], .pointer none]) (by simp [results, Tryz.results59, go_sem, z0, z1, z2, z3, zf0, zf1, zf2, zf3]) rfl ?_
              exact hE
          · have hlt : ¬ (k : Int) + 1 < (s.size : Int) := by omega
            go_quiet (fail)
            have hE := hend nq (.inr (.inl hk2))
            clear hend
            go_wp2
            refine bodyPost_ret (v := .tuple #[.agg #[.int .i64 k, .int .i64 6, .string ⟨#[s[k]'hk]⟩, .int .i64 0], .pointer none]) (by simp [results, Tryz.results59, go_sem, z0, z1, z2, z3, zf0, zf1, zf2, zf3]) rfl ?_
            exact hE
        · have B61 : (((s[k]'hk).toNat : Int) == 61) = false := by simp; omega
          clear h61
          go_quiet (fail)
          have hE := hend nq (.inl B61)
          clear hend
          go_wp2
          refine bodyPost_ret (v := .tuple #[.agg #[.int .i64 k, .int .i64 6, .string ⟨#[s[k]'hk]⟩, .int .i64 0], .pointer none]) (by simp [results, Tryz.results59, go_sem, z0, z1, z2, z3, zf0, zf1, zf2, zf3]) rfl ?_
          exact hE

end Go.Proofs.YtbhdkkkaeabkhaaGreatDoor
