/-
  coilref1.quoted.
  coilref1.cut.
  Plain laws: what is joined is cut back; a rest behind a line's end; a token's place. No program in sight.
  Plain laws: single tokens cut from their texts. No program in sight.
  Plain laws: what coilref1.One answers is what lex writes; Lx.toks, round by round, as coilref1.Tokens goes.
  coillaw1's small helpers.
-/
import Derived.Test.YtbhdkkkaeabkhaaGreatDoorM15
import Derived.Test.YtbhdkkkaeabkhaaGreatDoorM5
import Derived.OwnWalk
import Derived.Test.YtbhdkkkaeabkhaaGreatDoorM13
namespace Go.Proofs.YtbhdkkkaeabkhaaGreatDoor
open Go.RowKit
set_option linter.unusedSimpArgs false
set_option linter.unusedVariables false

/-- What 'quoted' finds in its world: the answer's box, still all noughts. -/
structure QW (w W : World) : Prop where
  b : Below w.heap.size w W
  z : W.heap[w.heap.size]? = some (.cells #[.int .i64 0, .int .i64 0, .string ⟨#[]⟩, .int .i64 0, .int .i64 0, .int .i64 0, .int .i64 0] 96 (0, 0))
theorem QW.row {w W W' : World} {row : Option Nat} (h : QW w W) (hg : W.grownBy W' row) (hr : ∀ g, row = some g → w.heap.size + 1 ≤ g) : QW w W' :=
  ⟨Below.turn h.b hg (fun r e => by have := hr r e; omega), (hg.block _ (lt_of_block h.z) (fun e => by have := hr _ e.symm; omega)).trans h.z⟩
theorem QW.row2 {w W W' : World} {row : Option Nat} {o : Obj} (h : QW w W) (hg : (W.alloc o).grownBy W' row) (hr : ∀ g, row = some g → w.heap.size + 1 ≤ g) : QW w W' :=
  (h.row (World.grownBy_alloc W o none) (fun g e => nomatch e)).row hg hr
theorem plain_quoted {c : UInt8} (h : plainB c = true) : ¬ c.toNat = 34 ∧ ¬ c.toNat = 92 ∧ ¬ (c.toNat < 32 ∨ 126 < c.toNat) := by
  simp only [plainB, Bool.and_eq_true, decide_eq_true_eq, Bool.not_eq_true', beq_eq_false_iff_ne] at h
  exact ⟨h.2.2.1, h.2.2.2, by omega⟩
theorem nplain_quoted {c : UInt8} (h : plainB c = false) (h34 : ¬ c.toNat = 34) (h92 : ¬ c.toNat = 92) : c.toNat < 32 ∨ 126 < c.toNat := by
  by_cases hb : c.toNat < 32 ∨ 126 < c.toNat
  · exact hb
  · exfalso
    have : plainB c = true := by
      simp only [plainB, Bool.and_eq_true, decide_eq_true_eq, Bool.not_eq_true', beq_eq_false_iff_ne]
      exact ⟨by omega, by omega, h34, h92⟩
    rw [h] at this
    cases this

set_option maxRecDepth 100000 in
set_option maxHeartbeats 4000000 in
theorem refQuoted (s : ByteArray) (k : Nat) (w : World) (hk : k < s.size) (hs : s.size ≤ 140737488351232) :
    Calls Tryz.prog 78 #[.string s, .int .i64 (k : Int)] w fun e w' => e = .returned (cutV k (Lx.quoted k (s.data.toList.drop (k + 1)) [] 1)) ∧ Below w.heap.size w w' := by
  have hsi : (s.size : Int) ≤ 140737488351232 := by omega
  have hki : (k : Int) < (s.size : Int) := by omega
  have hk0 : (0 : Int) ≤ (k : Int) := by omega
  obtain ⟨i0, hi0, hz0, hz1, hz2⟩ := info_parts infoU8
  go_enter Tryz.func78, Tryz.ntmps78
  go_upto_region 1 with fail
  have hblk := heap_alloc_new w (.cells #[.int .i64 0, .int .i64 0, .string ⟨#[]⟩, .int .i64 0, .int .i64 0, .int .i64 0, .int .i64 0] 96)
  have hb := grown_below (World.grownBy_alloc w (.cells #[.int .i64 0, .int .i64 0, .string ⟨#[]⟩, .int .i64 0, .int .i64 0, .int .i64 0, .int .i64 0] 96) none)
  have hsz : (w.alloc (.cells #[.int .i64 0, .int .i64 0, .string ⟨#[]⟩, .int .i64 0, .int .i64 0, .int .i64 0, .int .i64 0] 96)).heap.size = w.heap.size + 1 := by rw [World.size_alloc]
  obtain ⟨W1, hW1⟩ : ∃ W1, w.alloc (.cells #[.int .i64 0, .int .i64 0, .string ⟨#[]⟩, .int .i64 0, .int .i64 0, .int .i64 0, .int .i64 0] 96) = W1 := ⟨_, rfl⟩
  rw [hW1] at hblk hb hsz ⊢
  have HQ1 := Lib.hid (QW.mk hb hblk)
  have hrl := lt_of_block hblk
  clear hblk hW1 hb
  go_wp2_with (at_make; refine wpList_make_own _ rfl _ _ 66 rfl (w.heap.size + 1) 5 i0 (.int .u8 0) 1 Tryz.underlying66 hi0 hz0 hz1 .i64 .i64 _ 0 rfl rfl rfl (by rw [hz2]; omega) (by unfold maxLen; omega) (by rw [hsz]; exact Nat.le_refl _) ?_; intro W2 hown hgrow)
  have HQ2 := Lib.hid (HQ1.out.row hgrow (fun g e => nomatch e))
  rw [hsz] at hown
  have HO2 : Hid (OwnB W2 (w.heap.size + 1) (.slice (some ⟨w.heap.size + 1, 0, none⟩) 0 0) []) := Lib.hid hown
  clear hown hgrow HQ1 hi0 hz0 hz1 hz2 hsz
  go_loopg [5, 6] (s.size - (k + 1)) (fun n v u wr => ∃ (m : Nat) (l : List UInt8), n = s.size - m ∧ u = .int .i64 (m : Int) ∧ k + 1 ≤ m ∧ m ≤ s.size ∧ QW w wr ∧ OwnB wr (w.heap.size + 1) v l ∧ l.length ≤ m ∧
    Lx.quoted k (s.data.toList.drop m) l (m - k) = Lx.quoted k (s.data.toList.drop (k + 1)) [] 1)
  case atStart => exact ⟨k + 1, [], rfl, rfl, Nat.le_refl _, by omega, HQ2.out, HO2.out, by simp, by rw [show k + 1 - k = 1 from by omega]⟩
  case round =>
    obtain ⟨m, l, hn, rfl, hkm, hm, hW, hO, hl, he⟩ := hrel
    have HQW := Lib.hid hW
    have HB := Lib.hid hW.b
    have HZ := Lib.hid hW.z
    have hrl := lt_of_block hW.z
    have HO := Lib.hid hO
    have HE := Lib.hid he
    have HN := Lib.hid hn
    obtain ⟨A0, cap0, hv⟩ := hO.slice
    clear he hn hW hO
    subst hv
    have m0 : (0 : Int) ≤ (m : Int) := by omega
    have hmi : (m : Int) ≤ (s.size : Int) := by omega
    by_cases hlt : m < s.size
    · have hi : (m : Int) < (s.size : Int) := by omega
      have HD := Lib.hid (byte_at s m hlt)
      have hpl := refPlain (s[m]'hlt) wr
      by_cases h34 : (s[m]'hlt).toNat = 34
      · have b34 := u8t _ 34 h34
        have bsz : ((m : Int) == (s.size : Int)) = false := by simp; omega
        have H34 := Lib.hid h34
        clear h34
        have HQ : Hid (Lx.quoted k (s.data.toList.drop (k + 1)) [] 1 = .ok ⟨k, 5, l, 0⟩ (m + 1 - k)) := HE.out.symm.trans (by
          rw [HD.out, quoted_end H34.out, show m - k + 1 = m + 1 - k from by omega])
        obtain ⟨⟨p0, p1, p2, p3, p4, p5, p6⟩, ⟨g0, g1, g2, g3, g4, g5, g6⟩, hl0⟩ := seven_cells HZ.out
        have hs1 : (convert 66 9 (.slice A0 l.length cap0)).run Tryz.prog wr = .ok (.string ⟨l.toArray⟩) wr := strByte HO.out
        go_wp2_with fail
        refine bodyPost_ret (v := .agg #[.int .i64 (k : Int), .int .i64 5, .string ⟨l.toArray⟩, .int .i64 0, .int .i64 ((m : Int) + 1), .int .i64 0, .int .i64 0]) (by simp [results, Tryz.results78, go_sem, p0, p1, p2, p3, p4, p5, p6, g0, g1, g2, g3, g4, g5, g6, hl0]) rfl ?_
        rw [HQ.out]
        have hbf := HB.out
        refine ⟨?_, ?_⟩
        · simp only [cutV]
          rw [show k + (m + 1 - k) = m + 1 by omega]
          rfl
        · repeat (first | (with_reducible exact hbf) | (with_reducible refine BSet ?_ (Nat.le_refl _)) | (with_reducible refine BSet ?_ hbf.size) | (with_reducible refine BAlloc ?_))
      · have b34 := u8f _ 34 h34
        have H34 := Lib.hid h34
        clear h34
        cases hp : plainB (s[m]'hlt) with
        | true =>
          rw [hp] at hpl
          have HP := Lib.hid (plain_quoted hp)
          clear hp
          have HQ : Hid (Lx.quoted k (s.data.toList.drop (m + 1)) (l ++ [s[m]'hlt]) (m + 1 - k) = Lx.quoted k (s.data.toList.drop (k + 1)) [] 1) := by
            have e := HE.out
            rw [HD.out, quoted_plain HP.out.1 HP.out.2.1 HP.out.2.2, show m - k + 1 = m + 1 - k from by omega] at e
            exact e
          go_wp2_with (first
            | (go_at_call 97; refine hpl.mono ?_; clear hpl; rintro e w' ⟨rfl, hwe⟩; rw [← hwe]; clear hwe)
            | (at_builtin; refine appByte (w.heap.size + 1) rfl (.tmp 25) (.tmp 29) rfl _ l (s[m]'hlt) rfl rfl HO.out (by omega) (by omega) ?_; intro v1 w1 hown hgr; have hQ1 := HQW.out.row2 hgr (fun g hg => OwnB.base HO.out g hg)))
          have HO1 := Lib.hid hown
          have HQ1 := Lib.hid hQ1
          clear hown hgr hQ1
          go_roundg (s.size - (m + 1))
          case measure => have := HN.out; omega
          case rel => exact ⟨m + 1, _, rfl, rfl, by omega, by omega, HQ1.out, HO1.out, by simp; omega, HQ.out⟩
        | false =>
          rw [hp] at hpl
          by_cases h92 : (s[m]'hlt).toNat = 92
          · have b92 := u8t _ 92 h92
            have H92 := Lib.hid h92
            clear h92 hp
            by_cases hend : m + 1 = s.size
            · have bend : ((m : Int) + 1 == (s.size : Int)) = true := by simp; omega
              have HEN := Lib.hid hend
              clear hend
              have HQ : Hid (Lx.quoted k (s.data.toList.drop (k + 1)) [] 1 = .bad 12 (m + 1)) := HE.out.symm.trans (by
                rw [HD.out, List.drop_eq_nil_of_le (i := m + 1) (by rw [len_size, HEN.out]; exact Nat.le_refl _), quoted_cut H92.out, show k + (m - k) + 1 = m + 1 from by omega])
              have hwr := refWrong 12 ((m : Int) + 1) wr
              have HX := HZ.out
              go_wp2_with (first
                | (go_at_call 97; refine hpl.mono ?_; clear hpl; rintro e w' ⟨rfl, hwe⟩; rw [← hwe]; clear hwe)
                | (go_at_call 79; refine hwr.mono ?_; clear hwr; rintro e W3 ⟨rfl, hb3⟩; obtain ⟨⟨a0, a1, a2, a3, a4, a5, a6⟩, ⟨f0, f1, f2, f3, f4, f5, f6⟩, hl3⟩ := seven_cells ((hb3.block _ hrl).trans HX)))
              refine bodyPost_ret (v := .agg #[.int .i64 0, .int .i64 0, .string ⟨#[]⟩, .int .i64 0, .int .i64 0, .int .i64 12, .int .i64 ((m : Int) + 1)]) (by simp [results, Tryz.results78, go_sem, a0, a1, a2, a3, a4, a5, a6, f0, f1, f2, f3, f4, f5, f6, hl3]) rfl ?_
              rw [HQ.out]
              have hbf := Below.chain HB.out hb3
              refine ⟨rfl, ?_⟩
              repeat (first | (with_reducible exact hbf) | with_reducible refine BSet ?_ (Nat.le_refl _))
            · have bend : ((m : Int) + 1 == (s.size : Int)) = false := by simp; omega
              have hlt2 : m + 1 < s.size := by omega
              have hi2 : (m : Int) + 1 < (s.size : Int) := by omega
              have hi20 : (0 : Int) ≤ (m : Int) + 1 := by omega
              have HD2 := Lib.hid (byte_at s (m + 1) hlt2)
              have HES : Hid (Lx.quoted k (s.data.toList.drop (k + 1)) [] 1 = if (s[m + 1]'hlt2).toNat == 110 then Lx.quoted k (s.data.toList.drop (m + 1 + 1)) (l ++ [10]) (m - k + 2) else if (s[m + 1]'hlt2).toNat == 34 || (s[m + 1]'hlt2).toNat == 92 then Lx.quoted k (s.data.toList.drop (m + 1 + 1)) (l ++ [s[m + 1]'hlt2]) (m - k + 2) else .bad 12 (k + (m - k) + 1)) :=
                HE.out.symm.trans (by rw [HD.out, HD2.out]; exact quoted_esc H92.out)
              clear hend
              by_cases h110 : (s[m + 1]'hlt2).toNat = 110
              · have c110 := u8t _ 110 h110
                have HQ : Hid (Lx.quoted k (s.data.toList.drop (m + 2)) (l ++ [10]) (m + 2 - k) = Lx.quoted k (s.data.toList.drop (k + 1)) [] 1) := by
                  have e := HES.out
                  rw [if_pos (by simp [h110]), show m - k + 2 = m + 2 - k from by omega] at e
                  exact e.symm
                clear h110
                go_wp2_with (first
                  | (go_at_call 97; refine hpl.mono ?_; clear hpl; rintro e w' ⟨rfl, hwe⟩; rw [← hwe]; clear hwe)
                  | (at_builtin; refine appByte (w.heap.size + 1) rfl (.tmp 54) (.tmp 55) rfl _ l 10 rfl rfl HO.out (by omega) (by omega) ?_; intro v1 w1 hown hgr; have hQ1 := HQW.out.row2 hgr (fun g hg => OwnB.base HO.out g hg)))
                have HO1 := Lib.hid hown
                have HQ1 := Lib.hid hQ1
                clear hown hgr hQ1
                go_roundg (s.size - (m + 2))
                case measure => have := HN.out; omega
                case rel => exact ⟨m + 2, _, rfl, rfl, by omega, by omega, HQ1.out, HO1.out, by simp; omega, HQ.out⟩
              · have c110 := u8f _ 110 h110
                by_cases hq : (s[m + 1]'hlt2).toNat = 34 ∨ (s[m + 1]'hlt2).toNat = 92
                · have HQ : Hid (Lx.quoted k (s.data.toList.drop (m + 2)) (l ++ [s[m + 1]'hlt2]) (m + 2 - k) = Lx.quoted k (s.data.toList.drop (k + 1)) [] 1) := by
                    have e := HES.out
                    rw [if_neg (by simpa using h110), if_pos (by simpa using hq), show m - k + 2 = m + 2 - k from by omega] at e
                    exact e.symm
                  clear h110
                  by_cases h34b : (s[m + 1]'hlt2).toNat = 34
                  · have c34 := u8t _ 34 h34b
                    clear h34b hq
                    go_wp2_with (first
                      | (go_at_call 97; refine hpl.mono ?_; clear hpl; rintro e w' ⟨rfl, hwe⟩; rw [← hwe]; clear hwe)
                      | (at_builtin; refine appByte (w.heap.size + 1) rfl (.tmp 60) (.tmp 64) rfl _ l (s[m + 1]'hlt2) rfl rfl HO.out (by omega) (by omega) ?_; intro v1 w1 hown hgr; have hQ1 := HQW.out.row2 hgr (fun g hg => OwnB.base HO.out g hg)))
                    have HO1 := Lib.hid hown
                    have HQ1 := Lib.hid hQ1
                    clear hown hgr hQ1
                    go_roundg (s.size - (m + 2))
                    case measure => have := HN.out; omega
                    case rel => exact ⟨m + 2, _, rfl, rfl, by omega, by omega, HQ1.out, HO1.out, by simp; omega, HQ.out⟩
                  · have c34 := u8f _ 34 h34b
                    have c92 := u8t _ 92 (by omega : (s[m + 1]'hlt2).toNat = 92)
                    clear h34b hq
                    go_wp2_with (first
                      | (go_at_call 97; refine hpl.mono ?_; clear hpl; rintro e w' ⟨rfl, hwe⟩; rw [← hwe]; clear hwe)
                      | (at_builtin; refine appByte (w.heap.size + 1) rfl (.tmp 60) (.tmp 64) rfl _ l (s[m + 1]'hlt2) rfl rfl HO.out (by omega) (by omega) ?_; intro v1 w1 hown hgr; have hQ1 := HQW.out.row2 hgr (fun g hg => OwnB.base HO.out g hg)))
                    have HO1 := Lib.hid hown
                    have HQ1 := Lib.hid hQ1
                    clear hown hgr hQ1
                    go_roundg (s.size - (m + 2))
                    case measure => have := HN.out; omega
                    case rel => exact ⟨m + 2, _, rfl, rfl, by omega, by omega, HQ1.out, HO1.out, by simp; omega, HQ.out⟩
                · have HQ : Hid (Lx.quoted k (s.data.toList.drop (k + 1)) [] 1 = .bad 12 (m + 1)) := by
                    have e := HES.out
                    rw [if_neg (by simpa using h110), if_neg (by simpa using hq), show k + (m - k) + 1 = m + 1 from by omega] at e
                    exact e
                  have c34 := u8f _ 34 (by omega : ¬ (s[m + 1]'hlt2).toNat = 34)
                  have c92 := u8f _ 92 (by omega : ¬ (s[m + 1]'hlt2).toNat = 92)
                  clear h110 hq
                  have hwr := refWrong 12 ((m : Int) + 1) wr
                  have HX := HZ.out
                  go_wp2_with (first
                    | (go_at_call 97; refine hpl.mono ?_; clear hpl; rintro e w' ⟨rfl, hwe⟩; rw [← hwe]; clear hwe)
                    | (go_at_call 79; refine hwr.mono ?_; clear hwr; rintro e W3 ⟨rfl, hb3⟩; obtain ⟨⟨a0, a1, a2, a3, a4, a5, a6⟩, ⟨f0, f1, f2, f3, f4, f5, f6⟩, hl3⟩ := seven_cells ((hb3.block _ hrl).trans HX)))
                  refine bodyPost_ret (v := .agg #[.int .i64 0, .int .i64 0, .string ⟨#[]⟩, .int .i64 0, .int .i64 0, .int .i64 12, .int .i64 ((m : Int) + 1)]) (by simp [results, Tryz.results78, go_sem, a0, a1, a2, a3, a4, a5, a6, f0, f1, f2, f3, f4, f5, f6, hl3]) rfl ?_
                  rw [HQ.out]
                  have hbf := Below.chain HB.out hb3
                  refine ⟨rfl, ?_⟩
                  repeat (first | (with_reducible exact hbf) | with_reducible refine BSet ?_ (Nat.le_refl _))
          · have b92 := u8f _ 92 h92
            have HQ : Hid (Lx.quoted k (s.data.toList.drop (k + 1)) [] 1 = .bad 12 m) := HE.out.symm.trans (by
              rw [HD.out, quoted_bad H34.out h92 (nplain_quoted hp H34.out h92), show k + (m - k) = m from by omega])
            clear h92 hp
            have hwr := refWrong 12 (m : Int) wr
            have HX := HZ.out
            go_wp2_with (first
              | (go_at_call 97; refine hpl.mono ?_; clear hpl; rintro e w' ⟨rfl, hwe⟩; rw [← hwe]; clear hwe)
              | (go_at_call 79; refine hwr.mono ?_; clear hwr; rintro e W3 ⟨rfl, hb3⟩; obtain ⟨⟨a0, a1, a2, a3, a4, a5, a6⟩, ⟨f0, f1, f2, f3, f4, f5, f6⟩, hl3⟩ := seven_cells ((hb3.block _ hrl).trans HX)))
            refine bodyPost_ret (v := .agg #[.int .i64 0, .int .i64 0, .string ⟨#[]⟩, .int .i64 0, .int .i64 0, .int .i64 12, .int .i64 (m : Int)]) (by simp [results, Tryz.results78, go_sem, a0, a1, a2, a3, a4, a5, a6, f0, f1, f2, f3, f4, f5, f6, hl3]) rfl ?_
            rw [HQ.out]
            have hbf := Below.chain HB.out hb3
            refine ⟨rfl, ?_⟩
            repeat (first | (with_reducible exact hbf) | with_reducible refine BSet ?_ (Nat.le_refl _))
    · have hi : ¬ (m : Int) < (s.size : Int) := by omega
      have bsz : ((m : Int) == (s.size : Int)) = true := by simp; omega
      have HM := Lib.hid hlt
      have HQ : Hid (Lx.quoted k (s.data.toList.drop (k + 1)) [] 1 = .bad 12 m) := HE.out.symm.trans (by
        rw [List.drop_eq_nil_of_le (by rw [len_size]; have := HM.out; omega), Lx.quoted, show k + (m - k) = m from by omega])
      have hwr := refWrong 12 (m : Int) wr
      have HX := HZ.out
      go_wp2_with (first
        | (go_at_call 79; refine hwr.mono ?_; clear hwr; rintro e W3 ⟨rfl, hb3⟩; obtain ⟨⟨a0, a1, a2, a3, a4, a5, a6⟩, ⟨f0, f1, f2, f3, f4, f5, f6⟩, hl3⟩ := seven_cells ((hb3.block _ hrl).trans HX)))
      refine bodyPost_ret (v := .agg #[.int .i64 0, .int .i64 0, .string ⟨#[]⟩, .int .i64 0, .int .i64 0, .int .i64 12, .int .i64 (m : Int)]) (by simp [results, Tryz.results78, go_sem, a0, a1, a2, a3, a4, a5, a6, f0, f1, f2, f3, f4, f5, f6, hl3]) rfl ?_
      rw [HQ.out]
      have hbf := Below.chain HB.out hb3
      refine ⟨rfl, ?_⟩
      repeat (first | (with_reducible exact hbf) | with_reducible refine BSet ?_ (Nat.le_refl _))

end Go.Proofs.YtbhdkkkaeabkhaaGreatDoor

namespace Go.Proofs.YtbhdkkkaeabkhaaGreatDoor
open Go.RowKit
set_option linter.unusedSimpArgs false
set_option linter.unusedVariables false

/-- What coilref1.cut answers: lex's cut, or 10 where no token begins. -/
def cutR (p : Nat) (l : Lx.Bytes) : Lx.Res := if (l.head?.map Lx.begins).getD false then Lx.cut p l else .bad 10 p
theorem cutR_begins {p : Nat} {b : UInt8} {t : Lx.Bytes} (h : Lx.begins b = true) : cutR p (b :: t) = Lx.cut p (b :: t) := by
  simp [cutR, h]
theorem cutR_not {p : Nat} {b : UInt8} {t : Lx.Bytes} (h : Lx.begins b = false) : cutR p (b :: t) = .bad 10 p := by
  simp [cutR, h]
theorem sign_one (m : Nat) (h0 : m ≠ 0) (h : m < 14) : sgs.getD m [] = [firsts.getD m 0] := by
  have key : ((List.range 14).all fun m => m == 0 || sgs.getD m [] == [firsts.getD m 0]) = true := by decide
  have := List.all_eq_true.1 key m (List.mem_range.2 h)
  simpa [h0] using this
theorem firsts_at (b : UInt8) (h : firsts.contains b = true) : ∃ m, m ≠ 0 ∧ m < 14 ∧ firsts.getD m 0 = b := by
  have key : ∀ x ∈ firsts, ((List.range 14).any fun m => m != 0 && firsts.getD m 0 == x) = true := by decide
  have := List.any_eq_true.1 (key b (List.contains_iff_mem.1 h))
  obtain ⟨m, hm, he⟩ := this
  simp only [Bool.and_eq_true, bne_iff_ne, ne_eq, beq_iff_eq] at he
  exact ⟨m, he.1, List.mem_range.1 hm, he.2⟩
theorem firsts_in (m : Nat) (h : m < 14) : firsts.contains (firsts.getD m 0) = true := by
  have key : ((List.range 14).all fun m => firsts.contains (firsts.getD m 0)) = true := by decide
  exact List.all_eq_true.1 key m (List.mem_range.2 h)
theorem pre_one (c b : UInt8) (t : Lx.Bytes) : List.isPrefixOf [c] (b :: t) = (c == b) := by simp [List.isPrefixOf]
theorem pre_two (b : UInt8) (t : Lx.Bytes) : List.isPrefixOf [61, 61] (b :: t) = (b.toNat == 61 && t.head? == some 61) := by
  have hb : ((61 : UInt8) == b) = (b.toNat == 61) := by
    rw [Bool.eq_iff_iff]
    simp only [beq_iff_eq]
    exact ⟨fun h => by rw [← h]; rfl, fun h => (UInt8.toNat_inj.1 (by simpa using h)).symm⟩
  cases t with
  | nil => simp [List.isPrefixOf]
  | cons d t =>
    have hd : ((61 : UInt8) == d) = (d == 61) := by rw [Bool.eq_iff_iff]; simp only [beq_iff_eq]; exact ⟨Eq.symm, Eq.symm⟩
    simp [List.isPrefixOf, hb, hd]
theorem cut_sign {p : Nat} {b : UInt8} {t : Lx.Bytes} {m : Nat} (hm : m < 14) (hl : Lx.letter b = false) (hd : Lx.digit b = false) (h34 : ¬ b.toNat = 34)
    (hp : (sgs.getD m []).isPrefixOf (b :: t) = true) (hn : ∀ j, j < m → (sgs.getD j []).isPrefixOf (b :: t) = false) :
    cutR p (b :: t) = .ok ⟨p, 6, sgs.getD m [], 0⟩ (sgs.getD m []).length := by
  have hb34 : (b.toNat == 34) = false := by simpa using h34
  rcases Nat.eq_zero_or_pos m with rfl | hpos
  · have e : sgs.getD 0 [] = [61, 61] := rfl
    rw [e, pre_two] at hp
    have hb : b.toNat = 61 := by simp at hp; exact hp.1
    have hbeg : Lx.begins b = true := by
      have : b = 61 := UInt8.toNat_inj.1 hb
      subst this; decide
    rw [cutR_begins hbeg, e]
    simp [Lx.cut, hl, hd, hb34, hp]
  · rw [sign_one m (by omega) hm, pre_one] at hp
    have hfb : firsts.getD m 0 = b := by simpa using hp
    have hbeg : Lx.begins b = true := by
      have := firsts_in m hm
      rw [hfb, firsts_eq] at this
      unfold Lx.begins
      rw [this]; simp
    have h0 := hn 0 hpos
    rw [show sgs.getD 0 [] = [61, 61] from rfl, pre_two] at h0
    rw [cutR_begins hbeg, sign_one m (by omega) hm, hfb]
    simp only [Lx.cut, hl, hd, hb34, h0]
    simp
theorem cut_none {p : Nat} {b : UInt8} {t : Lx.Bytes} (hl : Lx.letter b = false) (hd : Lx.digit b = false) (h34 : ¬ b.toNat = 34)
    (hn : ∀ j, j < 14 → (sgs.getD j []).isPrefixOf (b :: t) = false) : cutR p (b :: t) = .bad 10 p := by
  have hb34 : (b.toNat == 34) = false := by simpa using h34
  apply cutR_not
  unfold Lx.begins
  rw [hl, hd, hb34, ← firsts_eq]
  simp only [Bool.false_or]
  cases hf : firsts.contains b with
  | false => rfl
  | true =>
    exfalso
    obtain ⟨m, h0, hm, e⟩ := firsts_at b hf
    have := hn m hm
    rw [sign_one m h0 hm, pre_one, e] at this
    simp at this

theorem cutV_seven (p : Nat) (r : Lx.Res) : ∃ (a b : Int) (c : ByteArray) (d e f h : Int), cutV p r = .agg #[.int .i64 a, .int .i64 b, .string c, .int .i64 d, .int .i64 e, .int .i64 f, .int .i64 h] := by
  cases r with
  | ok t n => exact ⟨_, _, _, _, _, _, _, rfl⟩
  | bad y x => exact ⟨_, _, _, _, _, _, _, rfl⟩
theorem pre_take {x l : Lx.Bytes} (h : x.length ≤ l.length) : x.isPrefixOf l = (l.take x.length == x) := by
  rw [Bool.eq_iff_iff, List.isPrefixOf_iff_prefix, beq_iff_eq, List.prefix_iff_eq_take]
  exact ⟨Eq.symm, Eq.symm⟩
theorem pre_short {x l : Lx.Bytes} (h : l.length < x.length) : x.isPrefixOf l = false := by
  rw [← Bool.not_eq_true, List.isPrefixOf_iff_prefix]
  intro hp
  have := hp.length_le
  omega

theorem BDrew {B : Nat} {w W : World} (h : Below B w W) : Below B w W.drew := ⟨h.os, h.tape, h.output, h.size, h.block⟩

set_option maxRecDepth 100000 in
set_option maxHeartbeats 4000000 in
theorem refCut (s : ByteArray) (k : Nat) (w : World) (hk : k < s.size) (hs : s.size ≤ 140737488351232) :
    Calls Tryz.prog 52 #[.string s, .int .i64 (k : Int)] w fun e w' => e = .returned (cutV k (cutR k (s.data.toList.drop k))) ∧ Below w.heap.size w w' := by
  have hsi : (s.size : Int) ≤ 140737488351232 := by omega
  have hki : (k : Int) < (s.size : Int) := by omega
  have hk0 : (0 : Int) ≤ (k : Int) := by omega
  have HD := Lib.hid (byte_at s k hk)
  go_enter Tryz.func52, Tryz.ntmps52
  go_upto_region 1 with fail
  have hblk := heap_alloc_new w (.cells #[.int .i64 0, .int .i64 0, .string ⟨#[]⟩, .int .i64 0, .int .i64 0, .int .i64 0, .int .i64 0] 96)
  have hb := grown_below (World.grownBy_alloc w (.cells #[.int .i64 0, .int .i64 0, .string ⟨#[]⟩, .int .i64 0, .int .i64 0, .int .i64 0, .int .i64 0] 96) none)
  have hsz : (w.alloc (.cells #[.int .i64 0, .int .i64 0, .string ⟨#[]⟩, .int .i64 0, .int .i64 0, .int .i64 0, .int .i64 0] 96)).heap.size = w.heap.size + 1 := by rw [World.size_alloc]
  obtain ⟨W1, hW1⟩ : ∃ W1, w.alloc (.cells #[.int .i64 0, .int .i64 0, .string ⟨#[]⟩, .int .i64 0, .int .i64 0, .int .i64 0, .int .i64 0] 96) = W1 := ⟨_, rfl⟩
  rw [hW1] at hblk hb hsz ⊢
  have HZ := Lib.hid hblk
  have HB := Lib.hid hb
  have hrl := lt_of_block hblk
  clear hblk hW1 hb
  by_cases hlet : Lx.letter (s[k]'hk) = true
  · have HR := Lib.hid (show cutR k (s.data.toList.drop k) = Lx.cutName k (s.data.toList.drop k) by
      rw [HD.out, cutR_begins (by simp [Lx.begins, hlet])]
      simp only [Lx.cut, hlet, if_true])
    have h2 : Lx.small (s[k]'hk) = true ∨ (Lx.small (s[k]'hk) = false ∧ Lx.great (s[k]'hk) = true) := by
      have h := hlet
      unfold Lx.letter at h
      cases hsm : Lx.small (s[k]'hk) with
      | true => exact .inl rfl
      | false => rw [hsm, Bool.false_or] at h; exact .inr ⟨rfl, h⟩
    rcases h2 with hsm | ⟨hsm, hgr⟩
    all_goals
      have hca := fun X => refName s k X hk hs hlet
      obtain ⟨l0, l1, l2, l3, l4, l5, l6, hcv⟩ := cutV_seven k (Lx.cutName k (s.data.toList.drop k))
      have HCV := Lib.hid hcv
      go_wp2_with (first
        | (go_at_call 72; refine (refSmall _ _).mono ?_; rw [hsm]; rintro e w' ⟨rfl, hwe⟩; rw [← hwe]; clear hwe)
        | (go_at_call 73; refine (refGreat _ _).mono ?_; rw [hgr]; rintro e w' ⟨rfl, hwe⟩; rw [← hwe]; clear hwe)
        | (go_at_call 74; refine (refDigit _ _).mono ?_; rw [hdg]; rintro e w' ⟨rfl, hwe⟩; rw [← hwe]; clear hwe)
        | (go_at_call 76; refine (hca _).mono ?_; rw [hcv]; clear hca; rintro e W3 ⟨rfl, hb3⟩; obtain ⟨⟨a0, a1, a2, a3, a4, a5, a6⟩, ⟨f0, f1, f2, f3, f4, f5, f6⟩, hl3⟩ := seven_cells ((hb3.block _ hrl).trans HZ.out)))
      refine bodyPost_ret (v := .agg #[.int .i64 l0, .int .i64 l1, .string l2, .int .i64 l3, .int .i64 l4, .int .i64 l5, .int .i64 l6]) (by simp [results, Tryz.results52, go_sem, a0, a1, a2, a3, a4, a5, a6, f0, f1, f2, f3, f4, f5, f6, hl3]) rfl ?_
      rw [HR.out, HCV.out]
      have hbf := Below.chain HB.out hb3
      refine ⟨rfl, ?_⟩
      repeat (first | (with_reducible exact hbf) | with_reducible refine BSet ?_ (Nat.le_refl _))
  · have hlf : Lx.letter (s[k]'hk) = false := by simpa using hlet
    have hsg : Lx.small (s[k]'hk) = false ∧ Lx.great (s[k]'hk) = false := by simpa [Lx.letter] using hlf
    obtain ⟨hsm, hgr⟩ := hsg
    cases hdg : Lx.digit (s[k]'hk) with
    | true =>
      have HR := Lib.hid (show cutR k (s.data.toList.drop k) = Lx.cutNumber k (s.data.toList.drop k) by
        rw [HD.out, cutR_begins (by simp [Lx.begins, hdg])]
        simp only [Lx.cut, hlf, hdg, if_true, Bool.false_eq_true, if_false])
      have hca := fun X => refNumber s k X hk hs hdg
      obtain ⟨l0, l1, l2, l3, l4, l5, l6, hcv⟩ := cutV_seven k (Lx.cutNumber k (s.data.toList.drop k))
      have HCV := Lib.hid hcv
      go_wp2_with (first
        | (go_at_call 72; refine (refSmall _ _).mono ?_; rw [hsm]; rintro e w' ⟨rfl, hwe⟩; rw [← hwe]; clear hwe)
        | (go_at_call 73; refine (refGreat _ _).mono ?_; rw [hgr]; rintro e w' ⟨rfl, hwe⟩; rw [← hwe]; clear hwe)
        | (go_at_call 74; refine (refDigit _ _).mono ?_; rw [hdg]; rintro e w' ⟨rfl, hwe⟩; rw [← hwe]; clear hwe)
        | (go_at_call 77; refine (hca _).mono ?_; rw [hcv]; clear hca; rintro e W3 ⟨rfl, hb3⟩; obtain ⟨⟨a0, a1, a2, a3, a4, a5, a6⟩, ⟨f0, f1, f2, f3, f4, f5, f6⟩, hl3⟩ := seven_cells ((hb3.block _ hrl).trans HZ.out)))
      refine bodyPost_ret (v := .agg #[.int .i64 l0, .int .i64 l1, .string l2, .int .i64 l3, .int .i64 l4, .int .i64 l5, .int .i64 l6]) (by simp [results, Tryz.results52, go_sem, a0, a1, a2, a3, a4, a5, a6, f0, f1, f2, f3, f4, f5, f6, hl3]) rfl ?_
      rw [HR.out, HCV.out]
      have hbf := Below.chain HB.out hb3
      refine ⟨rfl, ?_⟩
      repeat (first | (with_reducible exact hbf) | with_reducible refine BSet ?_ (Nat.le_refl _))
    | false =>
      by_cases h34 : (s[k]'hk).toNat = 34
      · have b34 := u8t _ 34 h34
        have HR := Lib.hid (show cutR k (s.data.toList.drop k) = Lx.quoted k (s.data.toList.drop (k + 1)) [] 1 by
          rw [HD.out, cutR_begins (by simp [Lx.begins, h34])]
          simp only [Lx.cut, hlf, hdg, h34, beq_self_eq_true, if_true, Bool.false_eq_true, if_false])
        clear h34
        have hca := fun X => refQuoted s k X hk hs
        obtain ⟨l0, l1, l2, l3, l4, l5, l6, hcv⟩ := cutV_seven k (Lx.quoted k (s.data.toList.drop (k + 1)) [] 1)
        have HCV := Lib.hid hcv
        go_wp2_with (first
          | (go_at_call 72; refine (refSmall _ _).mono ?_; rw [hsm]; rintro e w' ⟨rfl, hwe⟩; rw [← hwe]; clear hwe)
          | (go_at_call 73; refine (refGreat _ _).mono ?_; rw [hgr]; rintro e w' ⟨rfl, hwe⟩; rw [← hwe]; clear hwe)
          | (go_at_call 74; refine (refDigit _ _).mono ?_; rw [hdg]; rintro e w' ⟨rfl, hwe⟩; rw [← hwe]; clear hwe)
          | (go_at_call 78; refine (hca _).mono ?_; rw [hcv]; clear hca; rintro e W3 ⟨rfl, hb3⟩; obtain ⟨⟨a0, a1, a2, a3, a4, a5, a6⟩, ⟨f0, f1, f2, f3, f4, f5, f6⟩, hl3⟩ := seven_cells ((hb3.block _ hrl).trans HZ.out)))
        refine bodyPost_ret (v := .agg #[.int .i64 l0, .int .i64 l1, .string l2, .int .i64 l3, .int .i64 l4, .int .i64 l5, .int .i64 l6]) (by simp [results, Tryz.results52, go_sem, a0, a1, a2, a3, a4, a5, a6, f0, f1, f2, f3, f4, f5, f6, hl3]) rfl ?_
        rw [HR.out, HCV.out]
        have hbf := Below.chain HB.out hb3
        refine ⟨rfl, ?_⟩
        repeat (first | (with_reducible exact hbf) | with_reducible refine BSet ?_ (Nat.le_refl _))
      · have b34 := u8f _ 34 h34
        have H34 := Lib.hid h34
        clear h34 hlet
        go_upto_region 9 with (first
  | (go_at_call 72; refine (refSmall _ _).mono ?_; rw [hsm]; rintro e w' ⟨rfl, hwe⟩; rw [← hwe]; clear hwe)
  | (go_at_call 73; refine (refGreat _ _).mono ?_; rw [hgr]; rintro e w' ⟨rfl, hwe⟩; rw [← hwe]; clear hwe)
  | (go_at_call 74; refine (refDigit _ _).mono ?_; rw [hdg]; rintro e w' ⟨rfl, hwe⟩; rw [← hwe]; clear hwe)
          | (go_at_call 75; refine (refSigns _).mono ?_; rintro e W2 ⟨rfl, hWe⟩; rw [hWe]; clear hWe))
        have hblk2 := heap_alloc_new W1 (.cells sgCells 9)
        have hz2 := heap_alloc HZ.out (.cells sgCells 9)
        have hb2 := HB.out.alloc HB.out.size (.cells sgCells 9)
        have hsz2 : (W1.alloc (.cells sgCells 9)).heap.size = w.heap.size + 2 := by rw [World.size_alloc, hsz]
        rw [hsz] at hblk2
        obtain ⟨W2, hW2⟩ : ∃ W2, W1.alloc (.cells sgCells 9) = W2 := ⟨_, rfl⟩
        rw [hW2] at hblk2 hz2 hb2 hsz2 ⊢
        have HS2 := Lib.hid hblk2
        have HZ2 := Lib.hid hz2
        have HB2 := Lib.hid hb2
        have HL := Lib.hid (And.intro hlf hdg)
        have hrl2 := lt_of_block hz2
        have hrl3 := lt_of_block hblk2
        clear hblk2 hz2 hb2 hW2 HZ HB hrl hsz hlf hsm hgr hdg b34
        go_wp2_with fail
        go_loopg [7] 14 (fun n v wr => ∃ (m : Nat), n = 14 - m ∧ v = .int .i64 (m : Int) ∧ m ≤ 14 ∧ wr.heap = W2.heap ∧ Below w.heap.size w wr ∧ ∀ j, j < m → (sgs.getD j []).isPrefixOf (s.data.toList.drop k) = false)
        case atStart => exact ⟨0, rfl, rfl, Nat.zero_le _, rfl, HB2.out, fun j h => absurd h (Nat.not_lt_zero j)⟩
        case round =>
          obtain ⟨m, hn, rfl, hm, hwq, hwb, hc⟩ := hrel
          have HN := Lib.hid hn
          have HC := Lib.hid hc
          have HWQ := Lib.hid hwq
          have HS3 : Hid (wr.heap[w.heap.size + 1]? = some (.cells sgCells 9 (0, 0))) := Lib.hid (by rw [hwq]; exact HS2.out)
          have HZ3 : Hid (wr.heap[w.heap.size]? = some (.cells #[.int .i64 0, .int .i64 0, .string ⟨#[]⟩, .int .i64 0, .int .i64 0, .int .i64 0, .int .i64 0] 96 (0, 0))) := Lib.hid (by rw [hwq]; exact HZ2.out)
          have HB3 : Hid (Below w.heap.size w wr) := Lib.hid hwb
          have hrl5 := lt_of_block HZ3.out
          have hrl6 := lt_of_block HS3.out
          clear hn hc hwq hwb
          by_cases hlt : m < 14
          · have hi2 : (m : Int) < 14 := by omega
            have hi0 : (0 : Int) ≤ (m : Int) := by omega
            have t0 := (cell_of HS3.out m).trans (sgCells_at m hlt)
            obtain ⟨x, hx⟩ : ∃ x, sgs.getD m [] = x := ⟨_, rfl⟩
            have HX := Lib.hid hx
            rw [hx] at t0
            have hx2 : x.length ≤ 2 := by
              have key : ((List.range 14).all fun m => decide ((sgs.getD m []).length ≤ 2)) = true := by decide
              have := List.all_eq_true.1 key m (List.mem_range.2 hlt)
              rw [hx] at this
              simpa using this
            obtain ⟨S, hS⟩ : ∃ S : ByteArray, (⟨x.toArray⟩ : ByteArray) = S := ⟨_, rfl⟩
            have HSX := Lib.hid (show S.data.toList = x by rw [← hS])
            have hSl : S.size = x.length := by rw [← hS]; rfl
            have HSL := Lib.hid hSl
            rw [hS] at t0
            have hS2 : (S.size : Int) ≤ 2 := by omega
            have hS0 : (0 : Int) ≤ (S.size : Int) := by omega
            have hwr : IntKind.i64.wrap ((k : Int) + (S.size : Int)) = (k : Int) + (S.size : Int) := by rw [IntKind.wrap_i64]; omega
            have HSS := Lib.hid hS
            clear hx hS hSl hx2
            by_cases hfit : k + S.size ≤ s.size
            · have hfi : (k : Int) + (S.size : Int) ≤ (s.size : Int) := by omega
              have HP := Lib.hid (show x.isPrefixOf (s.data.toList.drop k) = ((s.data.toList.drop k).take S.size == x) by
                rw [pre_take (by rw [List.length_drop, len_size, ← HSL.out]; omega), HSL.out])
              obtain ⟨E, hE⟩ : ∃ E : ByteArray, s.extract k (k + S.size) = E := ⟨_, rfl⟩
              have hcmp : (E.toList == S.toList) = ((s.data.toList.drop k).take S.size == x) := by
                rw [ByteArray.toList_eq, ByteArray.toList_eq, ← hE, ext_data, HSX.out, show k + S.size - k = S.size by omega]
              clear hfit
              cases hq : ((s.data.toList.drop k).take S.size == x) with
              | true =>
                rw [hq] at hcmp HP
                have HR := Lib.hid (show cutR k (s.data.toList.drop k) = .ok ⟨k, 6, x, 0⟩ x.length by
                  rw [HD.out]
                  have := cut_sign (p := k) hlt HL.out.1 HL.out.2 H34.out (by rw [HX.out, ← HD.out]; exact HP.out) (by rw [← HD.out]; exact HC.out)
                  rw [HX.out] at this
                  exact this)
                clear hq
                go_wp2_with fail
                go_quiet (fail)
                obtain ⟨W4, hW4⟩ : ∃ W4, wr.drewN nq = W4 := ⟨_, rfl⟩
                have HS4 : Hid (W4.heap[w.heap.size + 1]? = some (.cells sgCells 9 (0, 0))) := Lib.hid (by rw [← hW4]; exact HS3.out)
                have HZ4 : Hid (W4.heap[w.heap.size]? = some (.cells #[.int .i64 0, .int .i64 0, .string ⟨#[]⟩, .int .i64 0, .int .i64 0, .int .i64 0, .int .i64 0] 96 (0, 0))) := Lib.hid (by rw [← hW4]; exact HZ3.out)
                have HB4 : Hid (Below w.heap.size w W4) := Lib.hid (by rw [← hW4]; exact Below.drewN HB3.out _)
                have s0 : W4.cell? ⟨w.heap.size + 1, m, none⟩ = some (.string S) := by rw [← hW4]; exact t0
                have hl4 := lt_of_block HZ4.out
                have hl5 := lt_of_block HS4.out
                rw [hW4]
                clear hW4 t0 hrl5 hrl6
                go_upto_region 15 with fail
                have ht := heap_alloc_new W4 (.cells #[.int .i64 (k : Int), .int .i64 6, .string S, .int .i64 0] 26)
                have hz5 := heap_alloc HZ4.out (.cells #[.int .i64 (k : Int), .int .i64 6, .string S, .int .i64 0] 26)
                have hb5 := HB4.out.alloc HB4.out.size (.cells #[.int .i64 (k : Int), .int .i64 6, .string S, .int .i64 0] 26)
                have s5 : (W4.alloc (.cells #[.int .i64 (k : Int), .int .i64 6, .string S, .int .i64 0] 26)).cell? ⟨w.heap.size + 1, m, none⟩ = some (.string S) := (World.cell?_of_block (Below.heap_alloc W4 _ _ hl5)).trans s0
                have hsz5 := World.size_alloc W4 (.cells #[.int .i64 (k : Int), .int .i64 6, .string S, .int .i64 0] 26)
                obtain ⟨L, hL⟩ : ∃ L, W4.heap.size = L := ⟨_, rfl⟩
                obtain ⟨W5, hW5⟩ : ∃ W5, W4.alloc (.cells #[.int .i64 (k : Int), .int .i64 6, .string S, .int .i64 0] 26) = W5 := ⟨_, rfl⟩
                rw [hL] at ht hl4 hl5
                rw [hL, hW5] at hsz5
                rw [hW5] at ht hz5 hb5 s5
                rw [hL, hW5]
                obtain ⟨t0, t1, t2, t3⟩ := four_cells ht
                obtain ⟨⟨p0, p1, p2, p3, p4, p5, p6⟩, ⟨g0, g1, g2, g3, g4, g5, g6⟩, hl0⟩ := seven_cells hz5
                have hlt5 := lt_of_block ht
                have hls5 : w.heap.size + 1 < W5.heap.size := by omega
                have HB5 := Lib.hid hb5
                have HLL := Lib.hid hl4
                clear hL hW5 s0 hb5 hz5 ht hsz5 hl4 hl5 hE hcmp
                go_region
                go_wp2_with fail
                refine bodyPost_ret (v := .agg #[.int .i64 (k : Int), .int .i64 6, .string S, .int .i64 0, .int .i64 ((k : Int) + (S.size : Int)), .int .i64 0, .int .i64 0]) (by simp [results, Tryz.results52, go_sem, p0, p1, p2, p3, p4, p5, p6, g0, g1, g2, g3, g4, g5, g6, hl0]) rfl ?_
                rw [HR.out]
                have hbf := HB5.out
                refine ⟨?_, ?_⟩
                · simp only [cutV, HSS.out]
                  rw [← HSL.out]
                  rfl
                · refine BDrew ?_
                  repeat (first | (with_reducible exact hbf) | with_reducible refine BSet ?_ (Nat.le_refl _))
              | false =>
                rw [hq] at hcmp HP
                clear hq
                go_wp2_with fail
                go_quiet (fail)
                go_wp2_with fail
                go_roundg (14 - (m + 1))
                case measure => have := HN.out; omega
                case rel => exact ⟨m + 1, rfl, by simp, hlt, HWQ.out, Below.drewN HB3.out _, fun j hj => by
                rcases Nat.lt_or_ge j m with h | h
                · exact HC.out j h
                · rw [show j = m by omega, HX.out]; exact HP.out⟩
            · have hfi : decide ((k : Int) + (S.size : Int) ≤ (s.size : Int)) = false := by simp; omega
              have HP := Lib.hid (show x.isPrefixOf (s.data.toList.drop k) = false from pre_short (by rw [List.length_drop, len_size, ← HSL.out]; omega))
              clear hfit
              go_wp2_with fail
              go_quiet (fail)
              go_wp2_with fail
              go_roundg (14 - (m + 1))
              case measure => have := HN.out; omega
              case rel => exact ⟨m + 1, rfl, by simp, hlt, HWQ.out, Below.drewN HB3.out _, fun j hj => by
                rcases Nat.lt_or_ge j m with h | h
                · exact HC.out j h
                · rw [show j = m by omega, HX.out]; exact HP.out⟩
          · have hi2 : ¬ (m : Int) < 14 := by omega
            have HR := Lib.hid (show cutR k (s.data.toList.drop k) = .bad 10 k by
              rw [HD.out]
              refine cut_none HL.out.1 HL.out.2 H34.out ?_
              rw [← HD.out]
              exact fun j hj => HC.out j (by omega))
            have hwg := refWrong 10 (k : Int) wr
            go_wp2_with (go_at_call 79; refine hwg.mono ?_; clear hwg; rintro e W3 ⟨rfl, hb3⟩; obtain ⟨⟨a0, a1, a2, a3, a4, a5, a6⟩, ⟨f0, f1, f2, f3, f4, f5, f6⟩, hl3⟩ := seven_cells ((hb3.block _ hrl5).trans HZ3.out))
            refine bodyPost_ret (v := .agg #[.int .i64 0, .int .i64 0, .string ⟨#[]⟩, .int .i64 0, .int .i64 0, .int .i64 10, .int .i64 (k : Int)]) (by simp [results, Tryz.results52, go_sem, a0, a1, a2, a3, a4, a5, a6, f0, f1, f2, f3, f4, f5, f6, hl3]) rfl ?_
            rw [HR.out]
            have hbf := Below.chain HB3.out hb3
            refine ⟨rfl, ?_⟩
            repeat (first | (with_reducible exact hbf) | with_reducible refine BSet ?_ (Nat.le_refl _))

end Go.Proofs.YtbhdkkkaeabkhaaGreatDoor

namespace Go.Proofs.YtbhdkkkaeabkhaaGreatDoor.Lx
open Go

/-! ### blanks -/
theorem skip_app (x : Bytes) (c : UInt8) (r : Bytes) (h47 : c ≠ 47) : ∀ (m : Bool) (l : Bytes), skip m l = c :: r → skip m (l ++ x) = c :: (r ++ x)
  | m, [], h => by rw [skip_end] at h; cases h
  | false, a :: t, h => by
    unfold skip at h
    rw [List.cons_append]
    split at h
    · rename_i hb
      rw [skip_blank hb]
      exact skip_app x c r h47 false t h
    · rename_i hb
      have hb' : blank a = false := by simpa using hb
      split at h
      · rename_i hr
        simp only [Bool.and_eq_true, beq_iff_eq] at hr
        have hh : (t ++ x).head? = some 47 := by rw [List.head?_append, hr.2]; rfl
        rw [skip_remark hb' hr.1 hh]
        exact skip_app x c r h47 true t h
      · injection h with h1 h2
        subst h1; subst h2
        rw [skip_stays hb']
        rintro ⟨h1, -⟩
        exact h47 (UInt8.toNat_inj.1 h1)
  | true, a :: t, h => by
    unfold skip at h
    rw [List.cons_append]
    split at h
    · rename_i hb
      have hb' : a.toNat = 10 := by simpa using hb
      have h10 : skip true (a :: (t ++ x)) = skip false (t ++ x) := by simp [skip, hb']
      rw [h10]
      exact skip_app x c r h47 false t h
    · rename_i hb
      rw [skip_within (by simpa using hb)]
      exact skip_app x c r h47 true t h
theorem skip_nil_app (x : Bytes) : ∀ (m : Bool) (l : Bytes), skip m l = [] → skip m (l ++ 10 :: x) = skip false x
  | false, [], _ => by rw [List.nil_append, skip_blank (by rfl)]
  | true, [], _ => by simp [skip]
  | false, a :: t, h => by
    unfold skip at h
    rw [List.cons_append]
    split at h
    · rename_i hb
      rw [skip_blank hb]
      exact skip_nil_app x false t h
    · rename_i hb
      have hb' : blank a = false := by simpa using hb
      split at h
      · rename_i hr
        simp only [Bool.and_eq_true, beq_iff_eq] at hr
        have hh : (t ++ 10 :: x).head? = some 47 := by rw [List.head?_append, hr.2]; rfl
        rw [skip_remark hb' hr.1 hh]
        exact skip_nil_app x true t h
      · cases h
  | true, a :: t, h => by
    unfold skip at h
    rw [List.cons_append]
    split at h
    · rename_i hb
      have hb' : a.toNat = 10 := by simpa using hb
      have h10 : skip true (a :: (t ++ 10 :: x)) = skip false (t ++ 10 :: x) := by simp [skip, hb']
      rw [h10]
      exact skip_nil_app x false t h
    · rename_i hb
      rw [skip_within (by simpa using hb)]
      exact skip_nil_app x true t h
/-- What was skipped is blanks and remarks. -/
theorem skip_piece : ∀ (m : Bool) (l : Bytes), skip m (l.take (l.length - (skip m l).length)) = []
  | m, [] => by simp [skip_end]
  | false, a :: t => by
    by_cases hb : blank a = true
    · rw [skip_blank hb, List.length_cons, show t.length + 1 - (skip false t).length = (t.length - (skip false t).length) + 1 by have := skip_le false t; omega, List.take_succ_cons, skip_blank hb]
      exact skip_piece false t
    · have hb' : blank a = false := by simpa using hb
      by_cases hr : a.toNat = 47 ∧ t.head? = some 47
      · rw [skip_remark hb' hr.1 hr.2, List.length_cons, show t.length + 1 - (skip true t).length = (t.length - (skip true t).length) + 1 by have := skip_le true t; omega, List.take_succ_cons]
        cases t with
        | nil => cases hr.2
        | cons d t =>
          have hd : d = 47 := by simpa using hr.2
          subst hd
          have hlt : (skip true (47 :: t)).length ≤ t.length := by rw [skip_within (by decide)]; exact skip_le true t
          rw [skip_remark hb' hr.1]
          · exact skip_piece true (47 :: t)
          · rw [List.length_cons, show t.length + 1 - (skip true (47 :: t)).length = (t.length - (skip true (47 :: t)).length) + 1 by omega, List.take_succ_cons]
            rfl
      · rw [skip_stays hb' hr]
        simp [skip_end]
  | true, a :: t => by
    by_cases hb : a.toNat = 10
    · have h10 : ∀ t, skip true (a :: t) = skip false t := fun t => by simp [skip, hb]
      rw [h10, List.length_cons, show t.length + 1 - (skip false t).length = (t.length - (skip false t).length) + 1 by have := skip_le false t; omega, List.take_succ_cons, h10]
      exact skip_piece false t
    · rw [skip_within hb, List.length_cons, show t.length + 1 - (skip true t).length = (t.length - (skip true t).length) + 1 by have := skip_le true t; omega, List.take_succ_cons, skip_within hb]
      exact skip_piece true t

theorem begins_not {c : UInt8} (h : begins c = true) : blank c = false ∧ c ≠ 47 := by
  unfold begins at h
  simp only [Bool.or_eq_true] at h
  have key : ∀ n : Nat, c.toNat = n → (n ≠ 9 ∧ n ≠ 10 ∧ n ≠ 13 ∧ n ≠ 32 ∧ n ≠ 47) → blank c = false ∧ c ≠ 47 := by
    rintro n hn ⟨h1, h2, h3, h4, h5⟩
    refine ⟨?_, ?_⟩
    · unfold blank
      simp only [hn, Bool.or_eq_false_iff, beq_eq_false_iff_ne]
      exact ⟨⟨⟨h1, h2⟩, h3⟩, h4⟩
    · rintro rfl
      exact h5 hn.symm
  rcases h with ((h | h) | h) | h
  · simp only [letter, small, great, Bool.or_eq_true, Bool.and_eq_true, decide_eq_true_eq] at h
    exact key _ rfl (by omega)
  · simp only [digit, Bool.and_eq_true, decide_eq_true_eq] at h
    exact key _ rfl (by omega)
  · simp only [beq_iff_eq] at h
    exact key _ rfl (by omega)
  · exact ⟨(sign_cases h).2.2.2.2, (sign_cases h).2.2.2.1⟩
theorem skip_begins {c : UInt8} {l : Bytes} (h : begins c = true) : skip false (c :: l) = c :: l := skip_stays (begins_not h).1 (fun e => (begins_not h).2 (UInt8.toNat_inj.1 e.1))

/-! ### one round -/
theorem go_nil {f p i : Nat} {l : Bytes} (h : skip false l = []) : go (f + 1) p i l = ([], none) := by
  simp [go, h]
theorem go_tok {f p i : Nat} {l s x : Bytes} {t : Tok} (hs : skip false l = s ++ x) (hf : Form s t) (ha : After s x t) (hi : i ≠ 4096) :
    go (f + 1) p i l = ({ t with pos := ((p + (l.length - (s ++ x).length) : Nat) : Int) } :: (go f (p + (l.length - (s ++ x).length) + s.length) (i + 1) x).1, (go f (p + (l.length - (s ++ x).length) + s.length) (i + 1) x).2) := by
  obtain ⟨c, r, e, hb⟩ := form_begins hf
  have hcut := form_cut hf ha (p + (l.length - (s ++ x).length))
  rw [go]
  simp only [hs]
  rw [e, List.cons_append] at *
  simp only [hb, Bool.not_true, Bool.false_eq_true, if_false, hi, beq_iff_eq]
  rw [hcut]
  simp only
  rw [show (c :: (r ++ x)).drop (c :: r).length = x from List.drop_left (l₁ := c :: r)]
theorem go_inv {f p i : Nat} {l : Bytes} {ts : List Tok} (h : go (f + 1) p i l = (ts, none)) : (skip false l = [] ∧ ts = []) ∨
    ∃ s x t ts', skip false l = s ++ x ∧ Form s t ∧ After s x t ∧ i ≠ 4096 ∧ ts = { t with pos := ((p + (l.length - (s ++ x).length) : Nat) : Int) } :: ts' ∧ go f (p + (l.length - (s ++ x).length) + s.length) (i + 1) x = (ts', none) := by
  rw [go] at h
  simp only at h
  split at h
  · rename_i hr
    injection h with h1 h2
    exact .inl ⟨hr, h1.symm⟩
  · rename_i b r hr
    right
    by_cases hb : begins b = true
    · rw [hb] at h
      simp only [Bool.not_true, Bool.false_eq_true, if_false] at h
      by_cases hi : i = 4096
      · simp [hi] at h
      · simp only [beq_iff_eq, hi, if_false] at h
        split at h
        · injection h with h1 h2; cases h2
        · rename_i t n hcut
          rw [hr] at hcut
          obtain ⟨s, x, e1, e2, e3, e4, e5⟩ := cut_form (fun d hd => by injection hd with hd; subst hd; exact hb) hcut
          subst e2
          rw [hr, e1] at h
          rw [List.drop_left] at h
          injection h with h1 h2
          refine ⟨s, x, t.bare, _, by rw [hr, e1], e3, e4, hi, ?_, Prod.ext rfl h2⟩
          rw [← h1]
          congr 1
          rw [e5]
          rw [e1]
          rfl
    · simp [hb] at h

theorem form_len {s : Bytes} {t : Tok} (h : Form s t) : 0 < s.length := by
  obtain ⟨c, r, e, -⟩ := form_begins h
  rw [e]; simp
/-- More fuel changes nothing; nor does what was skipped ahead. -/
theorem go_fuel : ∀ (f f' p i : Nat) (l : Bytes), l.length < f → l.length < f' → go f p i l = go f' p i l
  | 0, _, _, _, _, h, _ => by omega
  | _, 0, _, _, _, _, h => by omega
  | f + 1, f' + 1, p, i, l, h, h' => by
    rw [go, go]
    simp only
    have hl := skip_le false l
    split
    · rfl
    · rename_i b r hr
      split
      · rfl
      · split
        · rfl
        · split
          · rfl
          · rename_i t n hcut
            obtain ⟨h1, h2⟩ := cut_len hcut
            rw [go_fuel f f' _ _ _ (by rw [List.length_drop]; omega) (by rw [List.length_drop]; omega)]
theorem go_ahead {f f' p p' i : Nat} {l l' : Bytes} (hs : skip false l = skip false l') (hp : p + (l.length - (skip false l).length) = p' + (l'.length - (skip false l').length)) (h : l.length < f) (h' : l'.length < f') : go f p i l = go f' p' i l' := by
  cases f with
  | zero => omega
  | succ f =>
    cases f' with
    | zero => omega
    | succ f' =>
      have hl := skip_le false l
      have hl' := skip_le false l'
      rw [go, go]
      simp only
      rw [hp, hs]
      split
      · rfl
      · rename_i b r hr
        rw [hs] at hl
        split
        · rfl
        · split
          · rfl
          · split
            · rfl
            · rename_i t n hcut
              obtain ⟨h1, h2⟩ := cut_len hcut
              rw [go_fuel f f' _ _ _ (by rw [List.length_drop]; omega) (by rw [List.length_drop]; omega)]

/-! ### a rest behind a line's end -/
theorem sep_line (b : Bytes) : Sep (10 :: b) := sep_cons (by decide) (by decide)
theorem After.line {s x : Bytes} {t : Tok} (h : After s x t) {y : Bytes} (hy : Sep y) : After s (x ++ y) t := by
  cases x with
  | nil => exact hy.after _ _
  | cons c x => exact h
theorem go_append (b : Bytes) : ∀ (f p i : Nat) (a : Bytes) (xs : List Tok), go f p i a = (xs, none) → a.length < f →
    go (f + b.length + 1) p i (a ++ 10 :: b) = (xs ++ (go (b.length + 1) (p + a.length + 1) (i + xs.length) b).1, (go (b.length + 1) (p + a.length + 1) (i + xs.length) b).2)
  | 0, _, _, _, _, _, h => by omega
  | f + 1, p, i, a, xs, h, hl => by
    rcases go_inv h with ⟨hs, rfl⟩ | ⟨s, x, t, ts', hs, hf, ha, hi, rfl, hg⟩
    · have hk := skip_nil_app b false a hs
      have hkl := skip_le false b
      rw [go_ahead (f' := b.length + 1) (p' := p + a.length + 1) (l' := b) hk (by rw [hk, List.length_append, List.length_cons]; omega) (by rw [List.length_append, List.length_cons]; omega) (by omega)]
      simp
    · obtain ⟨c, r, e, hb⟩ := form_begins hf
      have hsl := form_len hf
      have hle := skip_le false a
      rw [hs, List.length_append] at hle
      have hk : skip false (a ++ 10 :: b) = s ++ (x ++ 10 :: b) := by
        rw [e, List.cons_append] at hs
        rw [skip_app (10 :: b) c (r ++ x) (begins_not hb).2 false a hs, e]
        simp
      have ih := go_append b f _ (i + 1) x ts' hg (by omega)
      rw [show f + 1 + b.length + 1 = (f + b.length + 1) + 1 by omega, go_tok hk hf (ha.line (sep_line b)) hi]
      have hq : p + ((a ++ 10 :: b).length - (s ++ (x ++ 10 :: b)).length) = p + (a.length - (s ++ x).length) := by
        simp only [List.length_append, List.length_cons]
        omega
      rw [hq, ih]
      have hp2 : p + (a.length - (s ++ x).length) + s.length + x.length + 1 = p + a.length + 1 := by
        rw [List.length_append]
        omega
      rw [hp2, List.length_cons, show i + 1 + ts'.length = i + (ts'.length + 1) by omega]
      rfl
/-- Tokens at another place, behind others. -/
theorem go_shift : ∀ (f p i : Nat) (l : Bytes) (ts : List Tok), go f p i l = (ts, none) → ∀ p' i' : Nat, i' + ts.length ≤ 4096 → go f p' i' l = (ts.map fun t => { t with pos := t.pos - p + p' }, none)
  | 0, p, i, l, ts, h, p', i', _ => by
    rw [go] at h ⊢
    injection h with h1 h2
    subst h1
    rfl
  | f + 1, p, i, l, ts, h, p', i', hc => by
    rcases go_inv h with ⟨hs, rfl⟩ | ⟨s, x, t, ts', hs, hf, ha, hi, rfl, hg⟩
    · rw [go_nil hs]; rfl
    · rw [List.length_cons] at hc
      rw [go_tok hs hf ha (by omega), go_shift f _ _ x ts' hg _ (i' + 1) (by omega)]
      simp only [List.map_cons, Prod.mk.injEq, and_true, List.cons.injEq]
      refine ⟨?_, ?_⟩
      · congr 1
        omega
      · apply List.map_congr_left
        intro u _
        congr 1
        omega

/-! ### what every cut token is -/
/-- Each token has its place, its own text stands there; blanks and remarks alone between. 'l' is what stands from the place 'p' on. -/
theorem go_parts : ∀ (f p i : Nat) (l : Bytes) (ts : List Tok), go f p i l = (ts, none) → i ≤ 4096 → i + ts.length ≤ 4096 ∧ ∀ t ∈ ts, Form (written t).1 t.bare ∧ (written t).2 = true ∧ (written t).1.length ≤ l.length ∧ (p : Int) ≤ t.pos ∧ t.pos < p + l.length
  | 0, p, i, l, ts, h, hi => by
    rw [go] at h
    injection h with h1 h2
    subst h1
    exact ⟨by simpa using hi, by simp⟩
  | f + 1, p, i, l, ts, h, hi => by
    rcases go_inv h with ⟨hs, rfl⟩ | ⟨s, x, t, ts', hs, hf, ha, hi', rfl, hg⟩
    · exact ⟨by simpa using hi, by simp⟩
    · obtain ⟨h1, h2⟩ := go_parts f _ _ x ts' hg (by omega)
      have hle := skip_le false l
      have hsl := form_len hf
      rw [hs, List.length_append] at hle
      refine ⟨by rw [List.length_cons]; omega, ?_⟩
      intro u hu
      rcases List.mem_cons.1 hu with rfl | hu
      · have hb : Tok.bare { t with pos := ((p + (l.length - (s ++ x).length) : Nat) : Int) } = t := by
          have := form_pos hf
          cases t
          simp only [Tok.bare] at *
          subst this
          rfl
        have hw := written_of_form (t := { t with pos := ((p + (l.length - (s ++ x).length) : Nat) : Int) }) (s := s) (by rw [hb]; exact hf)
        rw [hw, hb]
        refine ⟨hf, rfl, by simp only; omega, by simp only; omega, ?_⟩
        simp only [List.length_append]
        omega
      · obtain ⟨a1, a2, a3, a4, a5⟩ := h2 u hu
        rw [List.length_append] at a4 a5
        exact ⟨a1, a2, by omega, by omega, by omega⟩

/-! ### join -/
theorem joinFrom_len : ∀ (ts : List Tok) (i : Nat) (b b' : Bytes), joinFrom i b ts = some b' → b.length ≤ b'.length ∧ ∀ t ∈ ts, (written t).2 = true
  | [], i, b, b', h => by
    unfold joinFrom at h
    injection h with h
    subst h
    exact ⟨Nat.le_refl _, by simp⟩
  | t :: ts, i, b, b', h => by
    unfold joinFrom at h
    split at h
    · rename_i hw
      obtain ⟨h1, h2⟩ := joinFrom_len ts _ _ _ h
      refine ⟨Nat.le_trans ?_ h1, ?_⟩
      · unfold joinStep
        split
        · exact Nat.le_refl _
        · split <;> simp <;> omega
      · intro u hu
        rcases List.mem_cons.1 hu with rfl | hu
        · exact hw
        · exact h2 u hu
    · cases h
/-- The tokens' texts, a blank ahead of each but the first. -/
def sepFrom : Nat → List Tok → Bytes
  | _, [] => []
  | i, t :: l => (if 0 < i then [32] else []) ++ ((written t).1 ++ sepFrom (i + 1) l)
theorem sepFrom_cons (i : Nat) (t : Tok) (l : List Tok) : sepFrom i (t :: l) = (if 0 < i then [32] else []) ++ ((written t).1 ++ sepFrom (i + 1) l) := rfl
theorem joinFrom_sep : ∀ (ts : List Tok) (i : Nat) (b b' : Bytes), joinFrom i b ts = some b' → b'.length ≤ 65536 → b' = b ++ sepFrom i ts
  | [], i, b, b', h, _ => by
    unfold joinFrom at h
    injection h with h
    subst h
    simp [sepFrom]
  | t :: ts, i, b, b', h, hl => by
    unfold joinFrom at h
    split at h
    · have hb : b.length ≤ 65536 := by
        have h1 := (joinFrom_len ts _ _ _ h).1
        unfold joinStep at h1
        split at h1
        · omega
        · split at h1 <;> simp at h1 <;> omega
      have := joinFrom_sep ts _ _ _ h hl
      rw [this, sepFrom_cons]
      unfold joinStep
      rw [if_neg (by omega)]
      split <;> simp
    · cases h
theorem sep_sepFrom (i : Nat) (ts : List Tok) (hi : 0 < i) : Sep (sepFrom i ts) := by
  cases ts with
  | nil => exact sep_nil
  | cons t ts =>
    unfold sepFrom
    rw [if_pos hi]
    exact sep_cons (by decide) (by decide)
theorem go_sep : ∀ (ts : List Tok) (i f p : Nat), (∀ t ∈ ts, (written t).2 = true) → i + ts.length ≤ 4096 → (sepFrom i ts).length < f →
    (go f p i (sepFrom i ts)).1.map Tok.bare = ts.map Tok.bare ∧ (go f p i (sepFrom i ts)).2 = none
  | ts, i, 0, p, _, _, h => by omega
  | [], i, f + 1, p, _, _, _ => by
    rw [go_nil (by unfold sepFrom; exact skip_end _)]
    exact ⟨rfl, rfl⟩
  | t :: ts, i, f + 1, p, hw, hc, hl => by
    have hf := form_of_written (hw t (List.mem_cons_self ..))
    obtain ⟨c, r, e, hb⟩ := form_begins hf
    have hsl := form_len hf
    have hs : skip false (sepFrom i (t :: ts)) = (written t).1 ++ sepFrom (i + 1) ts := by
      rw [sepFrom_cons, e]
      split
      · show skip false (32 :: (c :: (r ++ sepFrom (i + 1) ts))) = _
        rw [skip_blank (by rfl), skip_begins hb]; rfl
      · show skip false (c :: (r ++ sepFrom (i + 1) ts)) = _
        rw [skip_begins hb]; rfl
    rw [List.length_cons] at hc
    have hl' : (sepFrom (i + 1) ts).length < f := by
      have h1 : (sepFrom i (t :: ts)).length = (if 0 < i then [32] else [] : Bytes).length + ((written t).1.length + (sepFrom (i + 1) ts).length) := by rw [sepFrom, List.length_append, List.length_append]
      omega
    obtain ⟨h1, h2⟩ := go_sep ts (i + 1) f (p + ((sepFrom i (t :: ts)).length - ((written t).1 ++ sepFrom (i + 1) ts).length) + (written t).1.length) (fun u hu => hw u (List.mem_cons_of_mem _ hu)) (by omega) hl'
    rw [go_tok hs hf ((sep_sepFrom (i + 1) ts (by omega)).after _ _) (by omega)]
    exact ⟨by simp only [List.map_cons, h1]; rfl, h2⟩
/-- What is joined is cut into the same tokens. -/
theorem join_back {ts : List Tok} {b : Bytes} (h : join ts = (b, 0)) : (toks b).1.map Tok.bare = ts.map Tok.bare ∧ (toks b).2 = none := by
  unfold join at h
  split at h
  · injection h with h1 h2; cases h2
  · rename_i b' hj
    split at h
    · injection h with h1 h2; cases h2
    · rename_i hb
      split at h
      · injection h with h1 h2; cases h2
      · rename_i hc
        injection h with h1 h2
        subst h1
        have he := joinFrom_sep ts 0 [] b' hj (by omega)
        rw [List.nil_append] at he
        unfold toks
        rw [if_neg hb, he]
        exact go_sep ts 0 _ 0 (joinFrom_len ts _ _ _ hj).2 (by omega) (by omega)
theorem join_written : ∀ (ts : List Tok) (i : Nat) (b : Bytes), (∀ t ∈ ts, (written t).2 = true) → ∃ b', joinFrom i b ts = some b'
  | [], i, b, _ => ⟨b, rfl⟩
  | t :: ts, i, b, h => by
    unfold joinFrom
    rw [if_pos (h t (List.mem_cons_self ..))]
    exact join_written ts _ _ (fun u hu => h u (List.mem_cons_of_mem _ hu))
/-- What was cut can be joined, if it isn't too long. -/
theorem toks_join {src : Bytes} {ts : List Tok} (h : toks src = (ts, none)) : (join ts).2 = 0 ∨ (join ts).2 = 2 := by
  unfold toks at h
  split at h
  · injection h with h1 h2; cases h2
  · obtain ⟨hc, hp⟩ := go_parts _ _ _ _ _ h (by omega)
    obtain ⟨b', hj⟩ := join_written ts 0 [] (fun t ht => (hp t ht).2.1)
    unfold join
    rw [hj]
    simp only
    split
    · exact .inr rfl
    · rw [if_neg (by omega)]
      exact .inl rfl
/-- One token joined. -/
theorem join_one {t : Tok} (h : (written t).2 = true) (hl : (written t).1.length ≤ 65536) : join [t] = ((written t).1, 0) := by
  have hj : joinFrom 0 [] [t] = some ((written t).1) := by
    unfold joinFrom
    rw [if_pos h]
    unfold joinFrom joinStep
    simp
  unfold join
  rw [hj]
  simp only
  rw [if_neg (by omega), if_neg (by simp)]
theorem join_one_bad {t : Tok} (h : (written t).2 = false) : join [t] = ([], 1) := by
  have hj : joinFrom 0 [] [t] = none := by
    unfold joinFrom
    rw [if_neg (by simp [h])]
  unfold join
  rw [hj]

end Go.Proofs.YtbhdkkkaeabkhaaGreatDoor.Lx

namespace Go.Proofs.YtbhdkkkaeabkhaaGreatDoor.Lx
open Go
set_option linter.unusedSimpArgs false

theorem all_step {α : Type} (f : α → Bool) (l : List α) (m : Nat) (h : m < l.length) : (l.take (m + 1)).all f = ((l.take m).all f && f l[m]) := by
  rw [List.take_succ_eq_append_getElem h, List.all_append]
  simp

/-- A text that is one token. -/
theorem toks_one {s : Bytes} {t : Tok} (h : Form s t) (hl : s.length ≤ 65536) : toks s = ([t], none) := by
  obtain ⟨c, r, e, hb⟩ := form_begins h
  have hs : skip false s = s ++ [] := by rw [e, skip_begins hb, List.append_nil]
  unfold toks
  rw [if_neg (by omega), go_tok hs h (sep_nil.after _ _) (by decide)]
  have hp := form_pos h
  obtain ⟨f, hf⟩ : ∃ f, s.length = f + 1 := ⟨s.length - 1, by rw [e]; simp⟩
  rw [List.append_nil, Nat.sub_self, hf, go_nil (skip_end _)]
  cases t
  simp only at hp
  subst hp
  rfl

/-! ### texts -/
theorem nameKind_le (s : Bytes) : 1 ≤ nameKind s ∧ nameKind s ≤ 3 := by
  unfold nameKind
  split
  · decide
  · split <;> decide
theorem form_said {q : Bytes} {t : Tok} (h : Form q t) (hk : t.kind = 5) : ∀ c ∈ t.s, saidB c = true := by
  cases h with
  | name c s _ _ _ =>
    have := nameKind_le (c :: s)
    simp only at hk
    omega
  | number => cases hk
  | text u hu => exact hu
  | two => cases hk
  | sign => cases hk
theorem text_written (s : Bytes) : (written ⟨0, 5, s, 0⟩).2 = s.all saidB := by
  rw [Bool.eq_iff_iff]
  constructor
  · intro h
    have hf := form_of_written h
    have hb : (Tok.bare ⟨0, 5, s, 0⟩) = ⟨0, 5, s, 0⟩ := rfl
    rw [hb] at hf
    generalize (written ⟨0, 5, s, 0⟩).1 = q at hf
    rw [List.all_eq_true]
    exact form_said hf rfl
  · intro h
    have hf : Form (quote s) (Tok.bare ⟨0, 5, s, 0⟩) := .text s (List.all_eq_true.1 h)
    rw [written_of_form hf]
theorem quote_len (s : Bytes) : (quote s).length ≤ 2 * s.length + 2 := by
  have := quoteIn_len s
  simp [quote]
  omega
/-- Any text that may stand in one is quoted and cut back. -/
theorem text_law (s : Bytes) (hl : s.length ≤ 1000) : if s.all saidB then join [⟨0, 5, s, 0⟩] = (quote s, 0) ∧ toks (quote s) = ([⟨0, 5, s, 0⟩], none) else join [⟨0, 5, s, 0⟩] = ([], 1) := by
  split
  · rename_i h
    have hf : Form (quote s) ⟨0, 5, s, 0⟩ := .text s (List.all_eq_true.1 h)
    have hw := written_of_form (t := ⟨0, 5, s, 0⟩) hf
    have hq := quote_len s
    refine ⟨?_, toks_one hf (by omega)⟩
    have := join_one (t := ⟨0, 5, s, 0⟩) (by rw [hw]) (by rw [hw]; show (quote s).length ≤ _; omega)
    rw [this, hw]
  · rename_i h
    exact join_one_bad (by rw [text_written]; simpa using h)

/-! ### numbers -/
theorem number_form (n : Nat) (hn : n ≤ 9223372036854775807) : Form (Lib.decDigits n) ⟨0, 4, [], n⟩ := by
  obtain ⟨c, s, e1, e2, e3, e4⟩ := decDigits_form n
  have := Form.number c s e2 (by omega) (fun h => (e4 h).1)
  rw [e3, ← e1] at this
  exact this
theorem number_law (n : Nat) (hn : n ≤ 9223372036854775807) : join [⟨0, 4, [], n⟩] = (Lib.decDigits n, 0) ∧ toks (120 :: 32 :: (Lib.decDigits n ++ [59])) = ([⟨0, 1, [120], 0⟩, ⟨2, 4, [], n⟩, ⟨((2 + (Lib.decDigits n).length : Nat) : Int), 6, [59], 0⟩], none) := by
  have hf := number_form n hn
  have hw := written_of_form (t := ⟨0, 4, [], n⟩) hf
  have hlen : (Lib.decDigits n).length ≤ 20 := by
    rw [Lib.decDigits_length]
    have := nD_le 19 n (by omega)
    omega
  refine ⟨?_, ?_⟩
  · have := join_one (t := ⟨0, 4, [], n⟩) (by rw [hw]) (by rw [hw]; show (Lib.decDigits n).length ≤ _; omega)
    rw [this, hw]
  · obtain ⟨c, r, e, hb⟩ := form_begins hf
    have hfx : Form [120] ⟨0, 1, [120], 0⟩ := .name 120 [] (by decide) (by simp; decide) (by decide)
    have hfs : Form [59] ⟨0, 6, [59], 0⟩ := .sign 59 (by decide)
    have h1 : skip false (120 :: 32 :: (Lib.decDigits n ++ [59])) = [120] ++ 32 :: (Lib.decDigits n ++ [59]) := by rw [skip_begins (by decide)]; rfl
    have h2 : skip false (32 :: (Lib.decDigits n ++ [59])) = Lib.decDigits n ++ [59] := by rw [skip_blank (by decide), e, List.cons_append, skip_begins hb]
    have h3 : skip false [59] = [59] ++ [] := by rw [skip_begins (by decide)]; rfl
    unfold toks
    rw [if_neg (by simp; omega)]
    obtain ⟨f, hf'⟩ : ∃ f, (120 :: 32 :: (Lib.decDigits n ++ [59])).length + 1 = f + 4 := ⟨(Lib.decDigits n).length, by simp⟩
    rw [hf', go_tok h1 hfx ((sep_cons (by decide) (by decide)).after _ _) (by decide)]
    rw [go_tok h2 hf ((sep_cons (by decide) (by decide)).after _ _) (by decide)]
    rw [go_tok h3 hfs (sep_nil.after _ _) (by decide), go_nil (skip_end _)]
    simp only [List.length_append, List.length_cons, List.length_nil, Nat.zero_add, Nat.sub_self, Prod.mk.injEq, List.cons.injEq, and_true, true_and]
    refine ⟨?_, ?_, ?_⟩
    · congr 1
      omega
    · congr 1
      omega
    · congr 1
      omega

end Go.Proofs.YtbhdkkkaeabkhaaGreatDoor.Lx

namespace Go.Proofs.YtbhdkkkaeabkhaaGreatDoor
open Go.RowKit
namespace Lx
/-- Is a token a name as it should be? -/
def nameOk (t : Tok) : Bool :=
  match toks t.s with
  | ([x], none) => x.kind == t.kind && (x.s == t.s && t.n == 0)
  | _ => false
/-- What One answers. -/
def oneR (t : Tok) : Bytes × Bool :=
  if t.kind = 1 ∨ t.kind = 2 ∨ t.kind = 3 then (t.s, nameOk t)
  else if t.kind = 4 then (if t.n < 0 ∨ t.s ≠ [] then ([], false) else (Lib.decDigits t.n.toNat, true))
  else if t.kind = 5 then (if t.s.all saidB then (quote t.s, t.n == 0) else ([], false))
  else if t.kind = 6 then (if sgs.contains t.s then (t.s, t.n == 0) else ([], false))
  else ([], false)

theorem nameKind_cases (l : Bytes) : nameKind l = 1 ∨ nameKind l = 2 ∨ nameKind l = 3 := by
  unfold nameKind
  split
  · exact .inr (.inr rfl)
  · split
    · exact .inr (.inl rfl)
    · exact .inl rfl
theorem sgs_sign (c : UInt8) (h : signs.contains c = true) : sgs.contains [c] = true := by
  have key : ∀ x ∈ signs, sgs.contains [x] = true := by decide
  exact key c (List.contains_iff_mem.1 h)
theorem sgs_form {s : Bytes} (h : sgs.contains s = true) : s = [61, 61] ∨ ∃ c, s = [c] ∧ signs.contains c = true := by
  have key : ∀ x ∈ sgs, x = [61, 61] ∨ ∃ c ∈ signs, x = [c] := by decide
  rcases key s (List.contains_iff_mem.1 h) with h | ⟨c, hc, e⟩
  · exact .inl h
  · exact .inr ⟨c, e, List.contains_iff_mem.2 hc⟩

theorem one_form {s : Bytes} {t : Tok} (h : Form s t.bare) : oneR t = (s, true) := by
  obtain ⟨p, k, u, n⟩ := t
  simp only [Tok.bare] at h
  generalize hb : (⟨0, k, u, n⟩ : Tok) = b at h
  cases h with
  | name c s hc hs hl =>
    have hf := Form.name c s hc hs hl
    injection hb with _ hk hu hn
    subst hk hu hn
    have ht := toks_one hf (by omega)
    unfold oneR nameOk
    rw [if_pos (by rcases nameKind_cases (c :: s) with h | h | h <;> rw [h] <;> simp)]
    simp [ht]
  | number c s hs hv hz =>
    injection hb with _ hk hu hn
    subst hk hu hn
    unfold oneR
    rw [if_neg (by simp), if_pos rfl, if_neg (by simp)]
    show (Lib.decDigits (value (c :: s)), true) = _
    rw [decDigits_value hs hz]
  | text v hv =>
    injection hb with _ hk hu hn
    subst hk hu hn
    unfold oneR
    rw [if_neg (by simp), if_neg (by simp), if_pos rfl, if_pos (by simpa using hv)]
    rfl
  | two =>
    injection hb with _ hk hu hn
    subst hk hu hn
    rfl
  | sign c hc =>
    injection hb with _ hk hu hn
    subst hk hu hn
    unfold oneR
    rw [if_neg (by simp), if_neg (by simp), if_neg (by simp), if_pos rfl, if_pos (sgs_sign c hc)]
    rfl

theorem form_one {t : Tok} (h1 : t.n ≤ 9223372036854775807) (h : (oneR t).2 = true) : Form (oneR t).1 t.bare := by
  obtain ⟨p, k, u, n⟩ := t
  unfold oneR at h ⊢
  simp only [Tok.bare] at *
  by_cases hk : k = 1 ∨ k = 2 ∨ k = 3
  · rw [if_pos hk] at h ⊢
    unfold nameOk at h
    simp only at h ⊢
    cases ht : toks u with
    | mk l o =>
      rw [ht] at h
      match l, o, h, ht with
      | [x], none, h, ht =>
        simp only [Bool.and_eq_true, beq_iff_eq] at h
        obtain ⟨h2, h3, h4⟩ := h
        have hgo : go (u.length + 1) 0 0 u = ([x], none) := by
          unfold toks at ht
          split at ht
          · injection ht with _ h; cases h
          · exact ht
        obtain ⟨-, hp⟩ := go_parts _ _ _ _ _ hgo (by omega)
        obtain ⟨hf, -⟩ := hp x (List.mem_singleton.2 rfl)
        obtain ⟨q, k', u', n'⟩ := x
        simp only [Tok.bare] at *
        subst h2 h3 h4
        generalize hb : (⟨0, k', u', n'⟩ : Tok) = b at hf
        generalize (written _).1 = S at hf
        cases hf with
        | name c s hc hs hl =>
          injection hb with _ hk hu hn
          subst hk hu
          exact Form.name c s hc hs hl
        | number c s hs hv hz => injection hb with _ hk' hu hn; omega
        | text v hv => injection hb with _ hk' hu hn; omega
        | two => injection hb with _ hk' hu hn; omega
        | sign c hc => injection hb with _ hk' hu hn; omega
      | [], none, h, _ => cases h
      | _ :: _ :: _, none, h, _ => cases h
      | [], some _, h, _ => cases h
      | _ :: _, some _, h, _ => simp at h
  · rw [if_neg hk] at h ⊢
    by_cases h4 : k = 4
    · rw [if_pos h4] at h ⊢
      by_cases hn : n < 0 ∨ u ≠ []
      · rw [if_pos hn] at h; cases h
      · rw [if_neg hn] at h ⊢
        have hu : u = [] := by
          cases u with
          | nil => rfl
          | cons a l => exact absurd (.inr (by simp)) hn
        have hn0 : 0 ≤ n := by
          rcases Int.lt_or_le n 0 with h | h
          · exact absurd (.inl h) hn
          · exact h
        subst hu h4
        obtain ⟨c, s, e1, e2, e3, e4⟩ := decDigits_form n.toNat
        have hf := Form.number c s e2 (by omega) (fun h => (e4 h).1)
        simp only
        rw [e1]
        rw [e3] at hf
        rw [show ((n.toNat : Nat) : Int) = n by omega] at hf
        exact hf
    · rw [if_neg h4] at h ⊢
      by_cases h5 : k = 5
      · rw [if_pos h5] at h ⊢
        by_cases ha : u.all saidB = true
        · rw [if_pos ha] at h ⊢
          simp only [beq_iff_eq] at h
          subst h h5
          exact Form.text u (by simpa using ha)
        · rw [if_neg ha] at h; cases h
      · rw [if_neg h5] at h ⊢
        by_cases h6 : k = 6
        · rw [if_pos h6] at h ⊢
          by_cases ha : sgs.contains u = true
          · rw [if_pos ha] at h ⊢
            simp only [beq_iff_eq] at h
            subst h h6
            rcases sgs_form ha with rfl | ⟨c, rfl, hc⟩
            · exact Form.two
            · exact Form.sign c hc
          · rw [if_neg ha] at h; cases h
        · rw [if_neg h6] at h; cases h

theorem one_written {t : Tok} (h1 : t.n ≤ 9223372036854775807) : (oneR t).2 = (written t).2 ∧ ((written t).2 = true → oneR t = written t) := by
  have hw : (written t).2 = true → oneR t = written t := fun h => by
    have hf := form_of_written h
    rw [one_form hf]
    exact Prod.ext rfl h.symm
  refine ⟨?_, hw⟩
  cases h2 : (written t).2 with
  | true => rw [hw h2, h2]
  | false =>
    cases h : (oneR t).2 with
    | false => rfl
    | true =>
      have := written_of_form (form_one h1 h)
      rw [this] at h2
      cases h2

/-- Why a cut is bad. -/
theorem quoted_why (p : Nat) : ∀ (m : Nat) (l acc : Bytes) (k y x : Nat), l.length ≤ m → quoted p l acc k = .bad y x → y = 12
  | m, [], acc, k, y, x, _, h => by
    simp only [quoted] at h
    injection h with h1 h2
    exact h1.symm
  | 0, c :: l, acc, k, y, x, hm, h => by simp at hm
  | m + 1, c :: l, acc, k, y, x, hm, h => by
    have hm' : l.length ≤ m := by simpa using hm
    by_cases e34 : c = 34
    · subst e34; simp [quoted] at h
    · by_cases e92 : c = 92
      · subst e92
        cases l with
        | nil => simp only [quoted] at h; injection h with h1 h2; exact h1.symm
        | cons d l =>
          have hm2 : l.length ≤ m := by simp at hm'; omega
          rw [quoted_esc] at h
          split at h
          · exact quoted_why p m l _ _ y x hm2 h
          · split at h
            · exact quoted_why p m l _ _ y x hm2 h
            · injection h with h1 h2; exact h1.symm
      · rw [quoted_byte p c l acc k e34 e92] at h
        split at h
        · injection h with h1 h2; exact h1.symm
        · exact quoted_why p m l _ _ y x hm' h
theorem cut_why {p y x : Nat} {b : UInt8} {l : Bytes} (h : cut p (b :: l) = .bad y x) : y = 2 ∨ y = 11 ∨ y = 12 := by
  simp only [cut] at h
  split at h
  · simp only [cutName] at h
    split at h
    · injection h with h1 h2; exact .inl h1.symm
    · cases h
  · split at h
    · simp only [cutNumber] at h
      split at h
      · injection h with h1 h2; exact .inr (.inl h1.symm)
      · cases h
    · split at h
      · exact .inr (.inr (quoted_why p _ l _ _ y x (Nat.le_refl _) h))
      · split at h <;> cases h
end Lx

end Go.Proofs.YtbhdkkkaeabkhaaGreatDoor

namespace Go.Proofs.YtbhdkkkaeabkhaaGreatDoor
open Go.RowKit Go.Shelf
set_option linter.unusedSimpArgs false
set_option linter.unusedVariables false

set_option maxHeartbeats 2000000 in
theorem lawToken (k a n : Int) (s : ByteArray) (w : World) : Calls Tryz.prog 15 #[.int .i64 k, .int .i64 a, .int .i64 n, .string s] w fun e w' => e = .returned (.agg #[.int .i64 a, .int .i64 k, .string s, .int .i64 n]) ∧ w.grownBy w' none := by
  go_enter Tryz.func15, Tryz.ntmps15
  go_wp2
  refine bodyPost_ret (v := .agg #[.int .i64 a, .int .i64 k, .string s, .int .i64 n]) (by simp [results, Tryz.results15, go_sem]) rfl ?_
  exact ⟨rfl, (World.grownBy_alloc _ _ _).trans (World.grownBy_alloc _ _ _)⟩

end Go.Proofs.YtbhdkkkaeabkhaaGreatDoor
