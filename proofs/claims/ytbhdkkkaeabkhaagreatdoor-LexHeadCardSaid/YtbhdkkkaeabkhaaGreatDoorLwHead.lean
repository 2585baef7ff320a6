/-
  The walk of LexHead.
-/
import Derived.Test.YtbhdkkkaeabkhaaGreatDoorLwFew
import Derived.Test.YtbhdkkkaeabkhaaGreatDoorLxHead
import Derived.Test.YtbhdkkkaeabkhaaGreatDoorLwSame
namespace Go.Proofs.YtbhdkkkaeabkhaaGreatDoor
open Go.RowKit Go.Shelf
set_option linter.unusedSimpArgs false
set_option linter.unusedVariables false
attribute [local go_sem high] tokNe

/-- A text that is cut without a fault: the row's room is its length. -/
theorem lwTokensFull {w W : World} (h : LW w W) (s : ByteArray) (hs : s.size ≤ 140737488351232) {ts : List Lx.Tok} (hT : Lx.toks s.data.toList = (ts, none)) :
    Calls Tryz.prog 16 #[.string s] W fun e W' => ∃ a, e = .returned (.tuple #[.slice a ts.length ts.length, .nilIface]) ∧ LW w W' ∧ LW W W' ∧ ToksIn W' (.slice a ts.length ts.length) ts := by
  refine (lwTokens h s hs).mono ?_
  rw [hT]
  rintro e W' ⟨h1, h2, h3, v, rfl, hr⟩
  have ht := row_toks (w' := W') hr
  rcases hr with ⟨rfl, rfl⟩ | ⟨g, cur, rfl, _⟩
  · exact ⟨none, rfl, h1, h.self.go h2, ht⟩
  · exact ⟨_, rfl, h1, h.self.go h2, ht⟩
theorem flat_len : ∀ l : List Lx.Tok, (l.flatMap cellsT).length = l.length * 4
  | [] => rfl
  | t :: l => by rw [List.flatMap_cons, List.length_append, flat_len l, List.length_cons]; simp [cellsT]; omega
theorem ToksIn.head {W : World} {a : Option Addr} {n c c' : Nat} {xs ys : List Lx.Tok} (h : ToksIn W (.slice a n c) (xs ++ ys)) : ToksIn W (.slice a xs.length c') xs := by
  rcases h with ⟨h, a', c2, e⟩ | ⟨g, c2, cur, fr, e, h1, h2⟩
  · obtain rfl := (List.append_eq_nil_iff.1 h).1
    injection e with e1 e2 e3
    exact .inl ⟨rfl, _, _, rfl⟩
  · injection e with e1 e2 e3
    subst e1
    refine .inr ⟨g, c', cur, fr, rfl, h1, ?_⟩
    have := congrArg (List.take (xs.length * 4)) h2
    rw [List.take_take, List.flatMap_append, List.length_append, Nat.min_eq_left (by omega)] at this
    rw [this, ← flat_len xs, List.take_left]

theorem rising_mem {L : Int} : ∀ {ts : List Lx.Tok} {last : Int}, Lx.Rising L last ts → ∀ t ∈ ts, last < t.pos ∧ t.pos < L
  | [], _, _, t, ht => by cases ht
  | u :: ts, last, h, t, ht => by
    obtain ⟨h1, h2, h3⟩ := h
    rcases List.mem_cons.1 ht with rfl | ht
    · exact ⟨h1, h2⟩
    · have := rising_mem h3 t ht
      omega

set_option maxRecDepth 100000 in
set_option maxHeartbeats 8000000 in
theorem lawHead (s t : ByteArray) (w : World) (hG : GL w) (hN : NG ≤ w.heap.size) : Calls Tryz.prog 8 #[.string s, .string t] w fun e w' => e = .returned (.bool true) ∧ LW w w' := by
  have H0 := LW.refl hG hN
  clear hG hN
  go_enter Tryz.func8, Tryz.ntmps8
  go_upto_region 3 with (first
    | (go_at_call 22; refine (lwFew H1 t 2000 (by omega)).mono ?_; rintro e W2 ⟨B, rfl, hB, hBs, H2⟩)
    | (go_at_call 22; refine (lwFew H0 s 2000 (by omega)).mono ?_; rintro e W1 ⟨A, rfl, hA, hAs, H1⟩))
  clear hA hB
  have ha1 : (A.size : Int) ≤ 2000 := by omega
  have hb1 : (B.size : Int) ≤ 2000 := by omega
  obtain ⟨⟨xs, o⟩, hT⟩ : ∃ r, Lx.toks A.data.toList = r := ⟨_, rfl⟩
  cases o with
  | some yx =>
    obtain ⟨y, x⟩ := yx
    have hk := lwTokensBad H2 A (by omega) hT
    clear hT
    go_wp2_with (first
      | (go_at_call 16; refine hk.mono ?_; clear hk; rintro e W3 ⟨g, rfl, H3, -⟩)
      | (go_at_call 3; refine (lwRuns H3).mono ?_; rintro e W4 ⟨rfl, H4⟩))
    go_ret
    exact ⟨rfl, H4⟩
  | none =>
    have hk := lwTokensFull H2 A (by omega) hT
    have hris := Lx.toks_rising hT (by rw [len_size]; omega)
    rw [len_size] at hris
    have hlaw := Lx.head_law (b := B.data.toList) (by rw [len_size]; exact hAs) (by rw [len_size]; exact hBs) hT
    have hxc := Lx.go_count _ _ _ _ _ ((Lx.toks_go (by rw [len_size]; omega)).1 hT)
    rw [len_size] at hxc
    rw [len_size] at hlaw
    have HLAW := Lib.hid hlaw
    have HRIS := Lib.hid hris
    clear hT hlaw hris
    have hl1 : (xs.length : Int) ≤ 2000 := by omega
    go_upto_region 6 with (go_at_call 16; refine hk.mono ?_; clear hk; rintro e W3 ⟨a0, rfl, H3, -, hv⟩)
    have HV := Lib.hid hv
    clear hv
    go_wp2_with fail
    go_loopg [7, 8] (xs.length) (fun n r v wr => ∃ (m : Nat) (last : Int), n = xs.length - m ∧ r = .int .i64 last ∧ v = .int .i64 (m : Int) ∧ m ≤ xs.length ∧ LW W3 wr ∧ Lx.Rising A.size last (xs.drop m))
    case atStart => exact ⟨0, -1, rfl, rfl, rfl, Nat.zero_le _, H3.self, HRIS.out⟩
    case round =>
      obtain ⟨m, last, hn, rfl, rfl, hm, hw, hri⟩ := hrel
      have HN := Lib.hid hn
      clear hn
      have hi0 : (0 : Int) ≤ (m : Int) := by omega
      by_cases hlt : m < xs.length
      · have hi : (m : Int) < (xs.length : Int) := by omega
        obtain ⟨g, cur, fr, rfl, hgb, hcur⟩ := HV.out.at hlt
        have hgb' := (hw.b.block g (lt_of_block hgb)).trans hgb
        obtain ⟨t0, -, -, -⟩ := toks_at hgb' hcur hlt
        have hgl := lt_of_block hgb'
        rw [List.drop_eq_getElem_cons hlt] at hri
        obtain ⟨hr1, hr2, hr3⟩ := hri
        obtain ⟨p, hp⟩ : ∃ p, (xs[m]'hlt).pos = p := ⟨_, rfl⟩
        rw [hp] at t0 hr1 hr2 hr3
        have HR3 := Lib.hid hr3
        have n1 : ¬ p ≤ last := by omega
        have n2 : ¬ (A.size : Int) ≤ p := by omega
        clear hp hr3 hgb hgb' hcur
        go_wp2
        go_roundg (xs.length - (m + 1))
        case measure => have := HN.out; omega
        case rel => exact ⟨m + 1, p, rfl, rfl, by simp, hlt, hw, HR3.out⟩
      · have hi : ¬ (m : Int) < (xs.length : Int) := by omega
        clear hri
        have hw3 := H3.trans hw
        obtain ⟨E, hE⟩ : ∃ E : ByteArray, A ++ ⟨#[10]⟩ = E := ⟨_, rfl⟩
        obtain ⟨D, hD⟩ : ∃ D : ByteArray, E ++ B = D := ⟨_, rfl⟩
        have e1 : D.data.toList = A.data.toList ++ 10 :: B.data.toList := by
          have d2 : ∀ a b : ByteArray, (a ++ b).data.toList = a.data.toList ++ b.data.toList := fun a b => by rw [ByteArray.data_append]; simp
          rw [← hD, d2, ← hE, d2, List.append_assoc]
          rfl
        have e2 : D.size ≤ 140737488351232 := by
          rw [← len_size, e1, List.length_append, List.length_cons, len_size, len_size]
          omega
        have e3 : (E.size : Int) ≤ 2001 := by
          rw [← hE, ByteArray.size_append, show (⟨#[10]⟩ : ByteArray).size = 1 from rfl]
          omega
        obtain ⟨⟨zs, o⟩, hZ⟩ : ∃ r, Lx.toks B.data.toList = r := ⟨_, rfl⟩
        cases o with
        | some yx =>
          obtain ⟨y, x⟩ := yx
          obtain ⟨ws, y', x', hWS⟩ := HLAW.out.2 zs y x hZ
          rw [← e1] at hWS
          have hk1 := lwTokensBad hw3 D e2 hWS
          have hk2 := fun X (h : LW w X) => lwTokensBad h B (by omega) hZ
          clear hZ hWS e1 e2
          go_wp2_with (first
            | (go_at_call 16; refine hk1.mono ?_; clear hk1; rintro e W4 ⟨g4, rfl, H4, -⟩)
            | (go_at_call 16; refine (hk2 _ H4).mono ?_; clear hk2; rintro e W5 ⟨g5, rfl, H5, -⟩)
            | (go_at_call 3; refine (lwRuns H5).mono ?_; rintro e W6 ⟨rfl, H6⟩))
          go_ret
          exact ⟨rfl, H6⟩
        | none =>
          obtain ⟨hWS, hcnt⟩ := HLAW.out.1 zs hZ
          rw [← e1] at hWS
          have hzr := Lx.toks_rising hZ (by rw [len_size]; omega)
          rw [len_size] at hzr
          have hzc := Lx.go_count _ _ _ _ _ ((Lx.toks_go (by rw [len_size]; omega)).1 hZ)
          rw [len_size] at hzc
          have hlm : (xs ++ zs.map (fun t : Lx.Tok => ({ t with pos := t.pos + (A.size : Int) + 1 } : Lx.Tok))).length = xs.length + zs.length := by rw [List.length_append, List.length_map]
          have hk1 := lwTokensFull hw3 D e2 hWS
          have hk2 := fun X Y (h : LW X Y) => lwTokensFull h B (by omega) hZ
          rw [hlm] at hk1
          have hz1 : (zs.length : Int) ≤ 2000 := by omega
          have HZR := Lib.hid hzr
          have HV3 := Lib.hid (HV.out.below hw.b)
          clear hZ hWS e1 e2 hlm hzr
          go_upto_region 19 with (first
            | (go_at_call 16; refine hk1.mono ?_; clear hk1; rintro e W4 ⟨ya, rfl, H4, H34, hy⟩)
            | (go_at_call 16; refine (hk2 _ _ H4.self).mono ?_; clear hk2; rintro e W5 ⟨za, rfl, -, H45, hz⟩))
          have n0 : (0 : Int) ≤ (xs.length : Int) := by omega
          have n1 : (xs.length : Int) ≤ (xs.length : Int) + (zs.length : Int) := by omega
          have hcn : ((xs.length + zs.length : Nat) : Int) = (xs.length : Int) + (zs.length : Int) := by omega
          have n2 : ¬ (4096 : Int) < (xs.length : Int) + (zs.length : Int) := by omega
          have n3 : xs.length ≤ xs.length + zs.length := by omega
          have hyp := (hy.below H45.b).head (c' := xs.length + zs.length)
          have hxp := HV3.out.below (H34.trans H45).b
          have hsm := lwSame H45.self hyp hxp (by omega) (by omega)
          rw [decide_eq_true rfl] at hsm
          have HY := Lib.hid (hy.below H45.b)
          have HZ := Lib.hid hz
          clear hyp hxp hy hz
          go_wp2_with (go_at_call 25; refine hsm.mono ?_; clear hsm; rintro e W6 ⟨rfl, H6⟩)
          go_loopg [12] (zs.length) (fun n v wq => ∃ (m : Nat), n = zs.length - m ∧ v = .int .i64 (m : Int) ∧ m ≤ zs.length ∧ LW W5 wq)
          case atStart => exact ⟨0, rfl, rfl, Nat.zero_le _, H6⟩
          case round =>
            obtain ⟨k, hn, rfl, hk, hq⟩ := hrel
            have HN2 := Lib.hid hn
            clear hn
            have k0 : (0 : Int) ≤ (k : Int) := by omega
            by_cases hkt : k < zs.length
            · have ki : (k : Int) < (zs.length : Int) := by omega
              have kx : (xs.length : Int) + (k : Int) < (xs.length : Int) + (zs.length : Int) := by omega
              have kx0 : (0 : Int) ≤ (xs.length : Int) + (k : Int) := by omega
              obtain ⟨g, cur, fr, rfl, hgb, hcur⟩ := HZ.out.at hkt
              have hgb' := (hq.b.block g (lt_of_block hgb)).trans hgb
              obtain ⟨t0, t1, t2, t3⟩ := toks_at hgb' hcur hkt
              have hgl := lt_of_block hgb'
              have hlen2 : (xs ++ zs.map (fun t : Lx.Tok => ({ t with pos := t.pos + (A.size : Int) + 1 } : Lx.Tok))).length = xs.length + zs.length := by rw [List.length_append, List.length_map]
              have HY' := HY.out
              rw [← hlen2] at HY'
              obtain ⟨g2, cur2, fr2, rfl, hgb2, hcur2⟩ := HY'.at (m := xs.length + k) (by rw [hlen2]; omega)
              have hgb2' := (hq.b.block g2 (lt_of_block hgb2)).trans hgb2
              obtain ⟨y0, y1, y2, y3⟩ := toks_at hgb2' hcur2 (m := xs.length + k) (by rw [hlen2]; omega)
              have hgl2 := lt_of_block hgb2'
              have hget : (xs ++ zs.map (fun t : Lx.Tok => ({ t with pos := t.pos + (A.size : Int) + 1 } : Lx.Tok)))[xs.length + k]'(by rw [hlen2]; omega) = { (zs[k]'hkt) with pos := (zs[k]'hkt).pos + (A.size : Int) + 1 } := by
                rw [List.getElem_append_right (by omega)]
                simp
              rw [hget] at y0 y1 y2 y3
              obtain ⟨z, hzk⟩ : ∃ z, zs[k]'hkt = z := ⟨_, rfl⟩
              rw [hzk] at t0 t1 t2 t3 y0 y1 y2 y3
              simp only at y0 y1 y2 y3
              have hzp : 0 ≤ z.pos ∧ z.pos < 2000 := by
                have := rising_mem HZR.out z (by rw [← hzk]; exact List.getElem_mem hkt)
                omega
              clear hget HY' hgb hgb' hcur hgb2 hgb2' hcur2 hlen2 hzk
              go_upto_region 26 with fail
              have hW := hq.alloc (.cells #[.int .i64 (z.pos + (A.size : Int) + 1), .int .i64 z.kind, .string ⟨z.s.toArray⟩, .int .i64 z.n] 26)
              have hbx := heap_alloc_new wr (.cells #[.int .i64 (z.pos + (A.size : Int) + 1), .int .i64 z.kind, .string ⟨z.s.toArray⟩, .int .i64 z.n] 26)
              have hal : ∀ j v, wr.cell? ⟨g2, j, none⟩ = some v → (wr.alloc (.cells #[.int .i64 (z.pos + (A.size : Int) + 1), .int .i64 z.kind, .string ⟨z.s.toArray⟩, .int .i64 z.n] 26)).cell? ⟨g2, j, none⟩ = some v := fun j v h => by rw [World.cell?_alloc_lt _ _ ⟨g2, j, none⟩ hgl2]; exact h
              have y0 := hal _ _ y0
              have y1 := hal _ _ y1
              have y2 := hal _ _ y2
              have y3 := hal _ _ y3
              obtain ⟨W, hWe⟩ : ∃ W, wr.alloc (.cells #[.int .i64 (z.pos + (A.size : Int) + 1), .int .i64 z.kind, .string ⟨z.s.toArray⟩, .int .i64 z.n] 26) = W := ⟨_, rfl⟩
              rw [hWe] at hW hbx y0 y1 y2 y3 ⊢
              obtain ⟨b0, b1, b2, b3⟩ := four_cells hbx
              have hbl := lt_of_block hbx
              have hgl2' : g2 < W.heap.size := by omega
              have hdf := tokDiff_eq { z with pos := z.pos + (A.size : Int) + 1 } { z with pos := z.pos + (A.size : Int) + 1 }
              rw [show (({ z with pos := z.pos + (A.size : Int) + 1 } : Lx.Tok) == { z with pos := z.pos + (A.size : Int) + 1 }) = true by simp, show (!true) = false from rfl] at hdf
              have hix : ((xs.length : Int) + (k : Int)).toNat = xs.length + k := by omega
              clear hWe t0 t1 t2 t3 hal hbx
              go_wp2_with fail
              go_quiet (fail)
              go_wp2
              go_roundg (zs.length - (k + 1))
              case measure => have := HN2.out; omega
              case rel => exact ⟨k + 1, rfl, by simp, hkt, hW.drewN _⟩
            · have ki : ¬ (k : Int) < (zs.length : Int) := by omega
              have hfin := hw3.trans (H34.trans (H45.trans hq))
              go_wp2_with (go_at_call 3; refine (lwRuns hfin).mono ?_; rintro e W8 ⟨rfl, H8⟩)
              go_ret
              exact ⟨rfl, H8⟩

end Go.Proofs.YtbhdkkkaeabkhaaGreatDoor
