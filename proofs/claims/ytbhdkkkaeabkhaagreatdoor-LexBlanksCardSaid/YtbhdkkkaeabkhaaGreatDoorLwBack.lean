/-
  The walk of LexBack.
-/
import Derived.Test.YtbhdkkkaeabkhaaGreatDoorLwShort
import Derived.Test.YtbhdkkkaeabkhaaGreatDoorLxPlaces
namespace Go.Proofs.YtbhdkkkaeabkhaaGreatDoor
open Go.RowKit Go.Shelf
set_option linter.unusedSimpArgs false
set_option linter.unusedVariables false

theorem lwBare {w W : World} (h : LW w W) {ts : List Lx.Tok} {v : Value} (hv : ToksIn W v ts) (hl : ts.length ≤ 1000000) :
    Calls Tryz.prog 35 #[v] W fun e W' => ∃ u, e = .returned u ∧ LW w W' ∧ LW W W' ∧ ToksIn W' u (ts.map Lx.Tok.bare) :=
  (lawBare ts v W hv hl).mono fun e W' ⟨u, h1, h2, h3⟩ => ⟨u, h1, h.go h3, h.self.go h3, h2⟩
theorem lwShort {w W : World} (h : LW w W) {ts : List Lx.Tok} {v : Value} (hv : ToksArg W v ts) :
    Calls Tryz.prog 31 #[v, .int .i64 300] W fun e W' => ∃ u, e = .returned u ∧ LW w W' ∧ ToksIn W' u ((ts.take 300).map cutS) :=
  (lawShort ts v W hv).mono fun e W' ⟨u, h1, h2, h3⟩ => ⟨u, h1, h.go h3, h2⟩

/-- The second half: any text. -/
theorem toks_bounds {src : Lx.Bytes} {ts : List Lx.Tok} (h : Lx.toks src = (ts, none)) : ∀ t ∈ ts, t.s.length ≤ 1000000000 ∧ -9223372036854775808 ≤ t.n ∧ t.n ≤ 9223372036854775807 := by
  unfold Lx.toks at h
  split at h
  · injection h with h1 h2; cases h2
  · intro t ht
    obtain ⟨_, hp⟩ := Lx.go_parts _ _ _ _ _ h (by omega)
    obtain ⟨hF, hw, hl, _⟩ := hp t ht
    have hb := Lx.form_bound hF
    have e1 : t.bare.s = t.s := rfl
    have e2 : t.bare.n = t.n := rfl
    rw [e1, e2] at hb
    exact ⟨by omega, by omega, hb.2.2⟩

set_option maxRecDepth 100000 in
set_option maxHeartbeats 8000000 in
theorem lawBack (ts0 : List Lx.Tok) (v0 : Value) (s : ByteArray) (w : World) (hv0 : ToksArg w v0 ts0) (hG : GL w) (hN : NG ≤ w.heap.size) : Calls Tryz.prog 6 #[v0, .string s] w fun e w' => e = .returned (.bool true) ∧ LW w w' := by
  have H0 := LW.refl hG hN
  obtain ⟨a0, c0, rfl⟩ : ∃ a c, v0 = .slice a ts0.length c := by obtain ⟨a, c, h, _⟩ := hv0; exact ⟨a, c, h⟩
  have hsh := lwShort H0 hv0
  have hbnd : ∀ t ∈ (ts0.take 300).map cutS, t.s.length ≤ 200 ∧ -9223372036854775808 ≤ t.n ∧ t.n ≤ 9223372036854775807 := by
    intro t ht
    obtain ⟨u, hu, rfl⟩ := List.mem_map.1 ht
    obtain ⟨m, hm, e⟩ := List.getElem_of_mem (List.mem_of_mem_take hu)
    obtain ⟨a, c, _, hat⟩ := hv0
    obtain ⟨b, off, _, h⟩ := hat m hm
    obtain ⟨_, _, _, _, h4, h5⟩ := h
    rw [e] at h4 h5
    exact ⟨by show (u.s.take 200).length ≤ 200; rw [List.length_take]; omega, h4, h5⟩
  obtain ⟨ts, hts⟩ : ∃ ts, (ts0.take 300).map cutS = ts := ⟨_, rfl⟩
  have htl : ts.length ≤ 300 := by rw [← hts, List.length_map, List.length_take]; omega
  rw [hts] at hsh hbnd
  have HB := Lib.hid hbnd
  clear hG hN hv0 hts hbnd
  go_enter Tryz.func6, Tryz.ntmps6
  go_upto_region 3 with (first
    | (go_at_call 31; refine hsh.mono ?_; clear hsh; rintro e W1 ⟨u, rfl, H1, hu⟩)
    | (go_at_call 22; refine (lwFew H1.self s 6000 (by omega)).mono ?_; rintro e W2 ⟨B, rfl, hB, hBs, H2⟩; have hu2 := hu.below H2.b; have H02 := H1.trans H2))
  have hjn := lwJoin H02.self hu2 (by omega) (fun t ht => ⟨by have := (HB.out t ht).1; omega, (HB.out t ht).2⟩)
  obtain ⟨⟨b, y⟩, hJ⟩ : ∃ r, Lx.join ts = r := ⟨_, rfl⟩
  rw [hJ] at hjn
  simp only at hjn
  clear hB hu
  obtain ⟨a1, c1, rfl⟩ := hu2.slice
  have hbl : b.length ≤ 140737488351232 := by
    have h := hJ
    unfold Lx.join at h
    split at h
    · injection h with h1 h2; rw [← h1]; simp
    · split at h
      · injection h with h1 h2; rw [← h1]; simp
      · split at h
        · injection h with h1 h2; rw [← h1]; simp
        · injection h with h1 h2; rw [← h1]; omega
  have HU := Lib.hid hu2
  have HJ := Lib.hid hJ
  clear hu2 hJ
  go_upto_if 23 with (go_at_call 18; refine hjn.mono ?_; clear hjn; rintro e W3 ⟨rfl, H3⟩)
  go_cut [] (fun wx => LW w wx)
  case first =>
    by_cases hy : y = 0
    · subst hy
      obtain ⟨hb1, hb2⟩ := Lx.join_back HJ.out
      obtain ⟨⟨xs, o⟩, hT⟩ : ∃ r, Lx.toks b = r := ⟨_, rfl⟩
      rw [hT] at hb1 hb2
      simp only at hb1 hb2
      subst hb2
      have hxl : xs.length ≤ 65537 := by have := toks_length b; rw [hT] at this; exact this
      have htk := lwTokensOk H3.self ⟨b.toArray⟩ hbl hT
      have HB1 := Lib.hid hb1
      clear hT hb1 hbl
      go_wp2_with (first
        | (go_at_call 16; refine htk.mono ?_; clear htk; rintro e W4 ⟨x, rfl, H4, hx⟩)
        | (go_at_call 35; refine (lwBare H5 (HU.out.below (H3.trans (H4.trans H5)).b) (by omega)).mono ?_; rintro e W6 ⟨u2, rfl, -, H6, hu2⟩)
        | (go_at_call 35; refine (lwBare H4.self hx (by omega)).mono ?_; rintro e W5 ⟨u1, rfl, H5, -, hu1⟩)
        | (go_at_call 25; refine (lwSame H6.self (hu1.below H6.b) hu2 (by rw [List.length_map]; omega) (by rw [List.length_map]; omega)).mono ?_; rw [HB1.out, decide_eq_true rfl]; rintro e W7 ⟨rfl, H7⟩))
      go_meet
      exact H02.trans (H3.trans (H4.trans (H5.trans (H6.trans H7))))
    · have hyi : ¬ (y : Int) = 0 := by omega
      go_wp2
      go_meet
      exact H02.trans H3
  case rest =>
    rename_i wc hcut
    clear hbl H3
    obtain ⟨⟨xs, o⟩, hT⟩ : ∃ r, Lx.toks B.data.toList = r := ⟨_, rfl⟩
    cases o with
    | some yx =>
      obtain ⟨y', x'⟩ := yx
      have hk := lwTokensBad hcut B (by omega) hT
      clear hT
      go_wp2_with (first
        | (go_at_call 16; refine hk.mono ?_; clear hk; rintro e W4 ⟨g, rfl, H4, -⟩)
        | (go_at_call 3; refine (lwRuns H4).mono ?_; rintro e W5 ⟨rfl, H5⟩))
      go_ret
      exact ⟨rfl, H5⟩
    | none =>
      have hk := lwTokensOk hcut B (by omega) hT
      have hxl : xs.length ≤ 65537 := by have := toks_length B.data.toList; rw [hT] at this; exact this
      have hxb := toks_bounds hT
      have hz := Lx.toks_join hT
      obtain ⟨⟨t, z⟩, hJ2⟩ : ∃ r, Lx.join xs = r := ⟨_, rfl⟩
      rw [hJ2] at hz
      simp only at hz
      have HX := Lib.hid hxb
      have HJ2 := Lib.hid hJ2
      clear hT hxb hJ2
      rcases hz with rfl | rfl
      · obtain ⟨hb1, hb2⟩ := Lx.join_back HJ2.out
        obtain ⟨⟨ys, o⟩, hT2⟩ : ∃ r, Lx.toks t = r := ⟨_, rfl⟩
        rw [hT2] at hb1 hb2
        simp only at hb1 hb2
        subst hb2
        have hyl : ys.length ≤ 65537 := by have := toks_length t; rw [hT2] at this; exact this
        have htl2 : t.length ≤ 140737488351232 := by
          have h := hT2
          unfold Lx.toks at h
          split at h
          · injection h with h1 h2; cases h2
          · omega
        have HT2 := Lib.hid hT2
        have HB1 := Lib.hid hb1
        clear hT2 hb1
        go_wp2_with (first
          | (go_at_call 16; refine hk.mono ?_; clear hk; rintro e W4 ⟨x, rfl, H4, hx⟩)
          | (go_at_call 18; refine (lwJoin H4.self hx (by omega) HX.out).mono ?_; rw [HJ2.out]; rintro e W5 ⟨rfl, H5⟩)
          | (go_at_call 16; refine (lwTokensOk H5.self ⟨t.toArray⟩ htl2 HT2.out).mono ?_; rintro e W6 ⟨yv, rfl, H6, hyv⟩)
          | (go_at_call 35; refine (lwBare H7 (hyv.below H7.b) (by omega)).mono ?_; rintro e W8 ⟨u2, rfl, -, H8, hu2⟩)
          | (go_at_call 35; refine (lwBare H6.self (hx.below (H5.trans H6).b) (by omega)).mono ?_; rintro e W7 ⟨u1, rfl, H7, -, hu1⟩)
          | (go_at_call 25; refine (lwSame H8.self (hu1.below H8.b) hu2 (by rw [List.length_map]; omega) (by rw [List.length_map]; omega)).mono ?_; rw [HB1.out, decide_eq_true rfl]; rintro e W9 ⟨rfl, H9⟩; have H10 := H4.trans (H5.trans (H6.trans (H7.trans (H8.trans H9)))))
          | (go_at_call 3; refine (lwRuns H10).mono ?_; rintro e W11 ⟨rfl, H11⟩))
        go_ret
        exact ⟨rfl, H11⟩
      · have ht0 : t = [] := by
          have h := HJ2.out
          unfold Lx.join at h
          split at h
          · injection h with h1 h2; exact h1.symm
          · split at h
            · injection h with h1 h2; exact h1.symm
            · split at h
              · injection h with h1 h2; cases h2
              · injection h with h1 h2; cases h2
        subst ht0
        have hT2 : Lx.toks (⟨(([] : List UInt8)).toArray⟩ : ByteArray).data.toList = ([], none) := by kernel_rfl
        go_wp2_with (first
          | (go_at_call 16; refine hk.mono ?_; clear hk; rintro e W4 ⟨x, rfl, H4, hx⟩)
          | (go_at_call 18; refine (lwJoin H4.self hx (by omega) HX.out).mono ?_; rw [HJ2.out]; rintro e W5 ⟨rfl, H5⟩)
          | (go_at_call 16; refine (lwTokensOk H5.self ⟨([] : List UInt8).toArray⟩ (by decide) hT2).mono ?_; rintro e W6 ⟨yv, rfl, H6, hyv⟩; have H10 := H4.trans (H5.trans H6))
          | (go_at_call 3; refine (lwRuns H10).mono ?_; rintro e W11 ⟨rfl, H11⟩))
        go_ret
        exact ⟨rfl, H11⟩

end Go.Proofs.YtbhdkkkaeabkhaaGreatDoor
