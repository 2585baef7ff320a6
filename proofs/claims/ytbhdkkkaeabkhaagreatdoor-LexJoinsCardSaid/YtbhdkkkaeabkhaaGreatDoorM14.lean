/-
  coilref1.name.
-/
import Derived.Test.YtbhdkkkaeabkhaaGreatDoorM13
namespace Go.Proofs.YtbhdkkkaeabkhaaGreatDoor
open Go.RowKit
set_option linter.unusedSimpArgs false
set_option linter.unusedVariables false

theorem seven_cells {w : World} {g t : Nat} {a b c d e f h : Value} (hh : w.heap[g]? = some (.cells #[a, b, c, d, e, f, h] t (0, 0))) :
    (w.cell? ⟨g, 0, none⟩ = some a ∧ w.cell? ⟨g, 1, none⟩ = some b ∧ w.cell? ⟨g, 2, none⟩ = some c ∧ w.cell? ⟨g, 3, none⟩ = some d ∧ w.cell? ⟨g, 4, none⟩ = some e ∧ w.cell? ⟨g, 5, none⟩ = some f ∧ w.cell? ⟨g, 6, none⟩ = some h) ∧
    (w.frozen? ⟨g, 0, none⟩ = false ∧ w.frozen? ⟨g, 1, none⟩ = false ∧ w.frozen? ⟨g, 2, none⟩ = false ∧ w.frozen? ⟨g, 3, none⟩ = false ∧ w.frozen? ⟨g, 4, none⟩ = false ∧ w.frozen? ⟨g, 5, none⟩ = false ∧ w.frozen? ⟨g, 6, none⟩ = false) ∧ g < w.heap.size :=
  ⟨⟨cell_of hh 0, cell_of hh 1, cell_of hh 2, cell_of hh 3, cell_of hh 4, cell_of hh 5, cell_of hh 6⟩, ⟨free_of hh 0, free_of hh 1, free_of hh 2, free_of hh 3, free_of hh 4, free_of hh 5, free_of hh 6⟩, lt_of_block hh⟩
theorem BSet {w W : World} {g j : Nat} {v : Value} (h : Below w.heap.size w W) (hg : w.heap.size ≤ g) : Below w.heap.size w (W.setCell ⟨g, j, none⟩ v) := Below.turn h (grown_set W g j v) (fun r e => by injection e with e; omega)
theorem BAlloc {w W : World} {o : Obj} (h : Below w.heap.size w W) : Below w.heap.size w (W.alloc o) := h.alloc h.size o
theorem Below.chain {w W X : World} (h : Below w.heap.size w W) (h' : Below W.heap.size W X) : Below w.heap.size w X := h.trans (h'.mono h.size)

theorem word_small {l : Lx.Bytes} {c : UInt8} (h : isWord l = true) (hc : l.head? = some c) : Lx.great c = false := by
  have key : ∀ x ∈ Lx.words, (x.head?.map Lx.great).getD false = false := by decide
  have := key l (List.contains_iff_mem.1 h)
  rw [hc] at this
  simpa using this
set_option maxRecDepth 100000 in
set_option maxHeartbeats 4000000 in
theorem refName (s : ByteArray) (k : Nat) (w : World) (hk : k < s.size) (hs : s.size ≤ 140737488351232) (hl : Lx.letter (s[k]'hk) = true) :
    Calls Tryz.prog 76 #[.string s, .int .i64 (k : Int)] w fun e w' => e = .returned (cutV k (Lx.cutName k (s.data.toList.drop k))) ∧ Below w.heap.size w w' := by
  have hsi : (s.size : Int) ≤ 140737488351232 := by omega
  have hki : (k : Int) ≤ (s.size : Int) := by omega
  have hk0 : (0 : Int) ≤ (k : Int) := by omega
  go_enter Tryz.func76, Tryz.ntmps76
  go_upto_region 1 with fail
  have hblk := heap_alloc_new w (.cells #[.int .i64 0, .int .i64 0, .string ⟨#[]⟩, .int .i64 0, .int .i64 0, .int .i64 0, .int .i64 0] 96)
  have hb := grown_below (World.grownBy_alloc w (.cells #[.int .i64 0, .int .i64 0, .string ⟨#[]⟩, .int .i64 0, .int .i64 0, .int .i64 0, .int .i64 0] 96) none)
  obtain ⟨W1, hW1⟩ : ∃ W1, w.alloc (.cells #[.int .i64 0, .int .i64 0, .string ⟨#[]⟩, .int .i64 0, .int .i64 0, .int .i64 0, .int .i64 0] 96) = W1 := ⟨_, rfl⟩
  rw [hW1] at hblk hb ⊢
  have HBLK := Lib.hid hblk
  have hrl := lt_of_block hblk
  clear hblk hW1
  go_wp2_with fail
  go_loopg [5] (s.size - k) (fun n v wr => ∃ m : Nat, n = s.size - m ∧ v = .int .i64 (m : Int) ∧ k ≤ m ∧ m ≤ s.size ∧ m ≤ k + 32 ∧ wr = W1 ∧ (s.data.toList.drop k).takeWhile Lx.within = (s.data.toList.drop k).take (m - k) ++ (s.data.toList.drop m).takeWhile Lx.within)
  case atStart => exact ⟨k, rfl, rfl, Nat.le_refl _, by omega, by omega, rfl, by simp⟩
  case round =>
    obtain ⟨m, hn, rfl, hkm, hm, hm32, rfl, he⟩ := hrel
    have HE := Lib.hid he
    have HN := Lib.hid hn
    clear he hn
    have hi0 : (0 : Int) ≤ (m : Int) := by omega
    have hkmi : (k : Int) ≤ (m : Int) := by omega
    by_cases hlt : m < s.size
    · have hi : (m : Int) < (s.size : Int) := by omega
      have HD0 := Lib.hid (byte_at s m hlt)
      cases hwi : Lx.within (s[m]'hlt) with
      | true =>
        by_cases h32 : m = k + 32
        · have hB : ((m : Int) - (k : Int) == 32) = true := by simp; omega
          have HR := Lib.hid (cutName_bad h32 hlt hwi HE.out)
          have H32 := Lib.hid h32
          clear h32
          have hgc := refGrows (s[m]'hlt) wr
          rw [hwi] at hgc
          have hwr := refWrong 2 (m : Int) wr
          clear hwi
          go_wp2_with (first
            | (go_at_call 95; refine hgc.mono ?_; clear hgc; rintro e w' ⟨rfl, hwe⟩; rw [← hwe]; clear hwe)
            | (go_at_call 79; refine hwr.mono ?_; clear hwr; rintro e W3 ⟨rfl, hb3⟩; obtain ⟨⟨a0, a1, a2, a3, a4, a5, a6⟩, ⟨f0, f1, f2, f3, f4, f5, f6⟩, hl3⟩ := seven_cells ((hb3.block _ hrl).trans HBLK.out)))
          refine bodyPost_ret (v := .agg #[.int .i64 0, .int .i64 0, .string ⟨#[]⟩, .int .i64 0, .int .i64 0, .int .i64 2, .int .i64 (m : Int)]) (by simp [results, Tryz.results76, go_sem, a0, a1, a2, a3, a4, a5, a6, f0, f1, f2, f3, f4, f5, f6, hl3]) rfl ?_
          rw [HR.out, ← H32.out]
          have hbf := Below.chain hb hb3
          refine ⟨rfl, ?_⟩
          repeat (first | (with_reducible exact hbf) | with_reducible refine BSet ?_ (Nat.le_refl _))
        · have hB : ((m : Int) - (k : Int) == 32) = false := by simp; omega
          have HG := Lib.hid (take_grow s k m hkm hlt)
          have hgc := refGrows (s[m]'hlt) wr
          rw [hwi] at hgc
          have HW := Lib.hid hwi
          clear hwi
          go_wp2_with (go_at_call 95; refine hgc.mono ?_; clear hgc; rintro e w' ⟨rfl, hwe⟩; rw [← hwe]; clear hwe)
          go_roundg (s.size - (m + 1))
          case measure => have := HN.out; omega
          case rel =>
            refine ⟨m + 1, rfl, by simp, by omega, hlt, by omega, rfl, ?_⟩
            rw [HG.out, HE.out, HD0.out, List.takeWhile_cons, if_pos HW.out]
            simp
      | false =>
        have hfin : (s.data.toList.drop k).takeWhile Lx.within = (s.data.toList.drop k).take (m - k) := by
          have e := HE.out
          rw [HD0.out, List.takeWhile_cons, hwi] at e
          simpa using e
        have HF := Lib.hid hfin
        have hkm' : k < m := by
          rcases Nat.lt_or_ge k m with h | h
          · exact h
          · exfalso
            have e := HF.out
            rw [byte_at s k hk, List.takeWhile_cons, if_pos (by simp [Lx.within, hl]), show m - k = 0 from by omega] at e
            simp at e
        have HR := Lib.hid (cutName_ok (by omega) hm hm32 HF.out)
        have hkmi2 : (m : Int) ≤ (s.size : Int) := by omega
        have hki2 : (k : Int) < (s.size : Int) := by omega
        obtain ⟨S, hS⟩ : ∃ S : ByteArray, s.extract k m = S := ⟨_, rfl⟩
        have hSd : S.data.toList = (s.data.toList.drop k).take (m - k) := by rw [← hS, ext_data]
        have hcell2 : (⟨((s.data.toList.drop k).take (m - k)).toArray⟩ : ByteArray) = S := by rw [← hSd, mk_back]
        have hhead : ((s.data.toList.drop k).take (m - k)).head? = some (s[k]'hk) := by
          rw [byte_at s k hk]
          obtain ⟨j, hj⟩ : ∃ j, m - k = j + 1 := ⟨m - k - 1, by omega⟩
          rw [hj, List.take_succ_cons]
          rfl
        obtain ⟨c, hc⟩ : ∃ c, s[k]'hk = c := ⟨_, rfl⟩
        rw [hc] at hhead
        have hnk : Lx.nameKind ((s.data.toList.drop k).take (m - k)) = if isWord S.data.toList then 3 else if Lx.great c then 2 else 1 := by
          unfold Lx.nameKind isWord
          rw [hhead, hSd, Option.map_some, Option.getD_some]
        have HNK := Lib.hid hnk
        have HX := Lib.hid (show isWord S.data.toList = true → Lx.great c = false from fun h => word_small h (by rw [hSd]; exact hhead))
        have HC2 := Lib.hid hcell2
        have hgr := fun X => refGreat c X
        have hwd := fun X => refWord S X
        obtain ⟨wb, hwb⟩ : ∃ wb, isWord S.data.toList = wb := ⟨_, rfl⟩
        obtain ⟨gb, hgb⟩ : ∃ gb, Lx.great c = gb := ⟨_, rfl⟩
        rw [hwb] at HNK
        rw [hgb] at HNK
        rw [hwb, hgb] at HX
        obtain ⟨⟨p0, p1, p2, p3, p4, p5, p6⟩, ⟨g0, g1, g2, g3, g4, g5, g6⟩, hl0⟩ := seven_cells HBLK.out
        rw [hwb] at hwd
        rw [hgb] at hgr
        have hblkr := HBLK.out
        clear hfin hnk hhead hSd hcell2 hwb hgb HE HN
        have hgc := refGrows (s[m]'hlt) wr
        rw [hwi] at hgc
        clear hwi
        cases gb <;> cases wb
        all_goals try (exact absurd (HX.out rfl) (by decide))
        all_goals
          go_wp2_with (first
            | (go_at_call 95; refine hgc.mono ?_; clear hgc; rintro e w' ⟨rfl, hwe⟩; rw [← hwe]; clear hwe)
            | (go_at_call 73; refine (hgr _).mono ?_; rintro e w' ⟨rfl, hwe⟩; rw [← hwe]; clear hwe)
            | (go_at_call 96; refine (hwd _).mono ?_; rintro e W5 ⟨rfl, hb5⟩; obtain ⟨⟨a0, a1, a2, a3, a4, a5, a6⟩, ⟨f0, f1, f2, f3, f4, f5, f6⟩, hl5⟩ := seven_cells ((hb5.block _ (by simp; omega)).trans (heap_alloc hblkr _)); have hT5 := (hb5.block wr.heap.size (by simp)).trans (heap_alloc_new wr _); obtain ⟨t0, t1, t2, t3⟩ := four_cells hT5; obtain ⟨e0, e1, e2, e3⟩ := four_free hT5; have hlt5 := lt_of_block hT5; have hbf := Below.chain (BAlloc hb) hb5))
        · refine bodyPost_ret (v := .agg #[.int .i64 (k : Int), .int .i64 1, .string S, .int .i64 0, .int .i64 (m : Int), .int .i64 0, .int .i64 0]) (by simp [results, Tryz.results76, go_sem, a0, a1, a2, a3, a4, a5, a6, f0, f1, f2, f3, f4, f5, f6, hl5]) rfl ?_
          rw [HR.out]
          refine ⟨?_, ?_⟩
          · unfold cutV
            simp only [HC2.out]
            rw [show k + (m - k) = m by omega, HNK.out]
            rfl
          · repeat (first | (with_reducible exact hbf) | (with_reducible exact hb) | (with_reducible refine BSet ?_ (Nat.le_refl _)) | (with_reducible refine BSet ?_ hb.size) | (with_reducible refine BAlloc ?_))
        · refine bodyPost_ret (v := .agg #[.int .i64 (k : Int), .int .i64 3, .string S, .int .i64 0, .int .i64 (m : Int), .int .i64 0, .int .i64 0]) (by simp [results, Tryz.results76, go_sem, a0, a1, a2, a3, a4, a5, a6, f0, f1, f2, f3, f4, f5, f6, hl5]) rfl ?_
          rw [HR.out]
          refine ⟨?_, ?_⟩
          · unfold cutV
            simp only [HC2.out]
            rw [show k + (m - k) = m by omega, HNK.out]
            rfl
          · repeat (first | (with_reducible exact hbf) | (with_reducible exact hb) | (with_reducible refine BSet ?_ (Nat.le_refl _)) | (with_reducible refine BSet ?_ hb.size) | (with_reducible refine BAlloc ?_))
        · refine bodyPost_ret (v := .agg #[.int .i64 (k : Int), .int .i64 2, .string S, .int .i64 0, .int .i64 (m : Int), .int .i64 0, .int .i64 0]) (by simp [results, Tryz.results76, go_sem, p0, p1, p2, p3, p4, p5, p6, g0, g1, g2, g3, g4, g5, g6, hl0]) rfl ?_
          rw [HR.out]
          refine ⟨?_, ?_⟩
          · unfold cutV
            simp only [HC2.out]
            rw [show k + (m - k) = m by omega, HNK.out]
            rfl
          · repeat (first | (with_reducible exact hb) | (with_reducible refine BSet ?_ (Nat.le_refl _)) | (with_reducible refine BSet ?_ hb.size) | (with_reducible refine BAlloc ?_))
    · have hi : ¬ (m : Int) < (s.size : Int) := by omega
      have hfin : (s.data.toList.drop k).takeWhile Lx.within = (s.data.toList.drop k).take (m - k) := by
        have e := HE.out
        rw [List.drop_eq_nil_of_le (show s.data.toList.length ≤ m by rw [len_size]; omega)] at e
        simpa using e
      have HF := Lib.hid hfin
      have hkm' : k < m := by
        rcases Nat.lt_or_ge k m with h | h
        · exact h
        · exfalso
          have e := HF.out
          rw [byte_at s k hk, List.takeWhile_cons, if_pos (by simp [Lx.within, hl]), show m - k = 0 from by omega] at e
          simp at e
      have HR := Lib.hid (cutName_ok (by omega) hm hm32 HF.out)
      have hkmi2 : (m : Int) ≤ (s.size : Int) := by omega
      have hki2 : (k : Int) < (s.size : Int) := by omega
      obtain ⟨S, hS⟩ : ∃ S : ByteArray, s.extract k m = S := ⟨_, rfl⟩
      have hSd : S.data.toList = (s.data.toList.drop k).take (m - k) := by rw [← hS, ext_data]
      have hcell2 : (⟨((s.data.toList.drop k).take (m - k)).toArray⟩ : ByteArray) = S := by rw [← hSd, mk_back]
      have hhead : ((s.data.toList.drop k).take (m - k)).head? = some (s[k]'hk) := by
        rw [byte_at s k hk]
        obtain ⟨j, hj⟩ : ∃ j, m - k = j + 1 := ⟨m - k - 1, by omega⟩
        rw [hj, List.take_succ_cons]
        rfl
      obtain ⟨c, hc⟩ : ∃ c, s[k]'hk = c := ⟨_, rfl⟩
      rw [hc] at hhead
      have hnk : Lx.nameKind ((s.data.toList.drop k).take (m - k)) = if isWord S.data.toList then 3 else if Lx.great c then 2 else 1 := by
        unfold Lx.nameKind isWord
        rw [hhead, hSd, Option.map_some, Option.getD_some]
      have HNK := Lib.hid hnk
      have HX := Lib.hid (show isWord S.data.toList = true → Lx.great c = false from fun h => word_small h (by rw [hSd]; exact hhead))
      have HC2 := Lib.hid hcell2
      have hgr := fun X => refGreat c X
      have hwd := fun X => refWord S X
      obtain ⟨wb, hwb⟩ : ∃ wb, isWord S.data.toList = wb := ⟨_, rfl⟩
      obtain ⟨gb, hgb⟩ : ∃ gb, Lx.great c = gb := ⟨_, rfl⟩
      rw [hwb] at HNK
      rw [hgb] at HNK
      rw [hwb, hgb] at HX
      obtain ⟨⟨p0, p1, p2, p3, p4, p5, p6⟩, ⟨g0, g1, g2, g3, g4, g5, g6⟩, hl0⟩ := seven_cells HBLK.out
      rw [hwb] at hwd
      rw [hgb] at hgr
      have hblkr := HBLK.out
      clear hfin hnk hhead hSd hcell2 hwb hgb HE HN
      cases gb <;> cases wb
      all_goals try (exact absurd (HX.out rfl) (by decide))
      all_goals
        go_wp2_with (first
          | (go_at_call 73; refine (hgr _).mono ?_; rintro e w' ⟨rfl, hwe⟩; rw [← hwe]; clear hwe)
          | (go_at_call 96; refine (hwd _).mono ?_; rintro e W5 ⟨rfl, hb5⟩; obtain ⟨⟨a0, a1, a2, a3, a4, a5, a6⟩, ⟨f0, f1, f2, f3, f4, f5, f6⟩, hl5⟩ := seven_cells ((hb5.block _ (by simp; omega)).trans (heap_alloc hblkr _)); have hT5 := (hb5.block wr.heap.size (by simp)).trans (heap_alloc_new wr _); obtain ⟨t0, t1, t2, t3⟩ := four_cells hT5; obtain ⟨e0, e1, e2, e3⟩ := four_free hT5; have hlt5 := lt_of_block hT5; have hbf := Below.chain (BAlloc hb) hb5))
      · refine bodyPost_ret (v := .agg #[.int .i64 (k : Int), .int .i64 1, .string S, .int .i64 0, .int .i64 (m : Int), .int .i64 0, .int .i64 0]) (by simp [results, Tryz.results76, go_sem, a0, a1, a2, a3, a4, a5, a6, f0, f1, f2, f3, f4, f5, f6, hl5]) rfl ?_
        rw [HR.out]
        refine ⟨?_, ?_⟩
        · unfold cutV
          simp only [HC2.out]
          rw [show k + (m - k) = m by omega, HNK.out]
          rfl
        · repeat (first | (with_reducible exact hbf) | (with_reducible exact hb) | (with_reducible refine BSet ?_ (Nat.le_refl _)) | (with_reducible refine BSet ?_ hb.size) | (with_reducible refine BAlloc ?_))
      · refine bodyPost_ret (v := .agg #[.int .i64 (k : Int), .int .i64 3, .string S, .int .i64 0, .int .i64 (m : Int), .int .i64 0, .int .i64 0]) (by simp [results, Tryz.results76, go_sem, a0, a1, a2, a3, a4, a5, a6, f0, f1, f2, f3, f4, f5, f6, hl5]) rfl ?_
        rw [HR.out]
        refine ⟨?_, ?_⟩
        · unfold cutV
          simp only [HC2.out]
          rw [show k + (m - k) = m by omega, HNK.out]
          rfl
        · repeat (first | (with_reducible exact hbf) | (with_reducible exact hb) | (with_reducible refine BSet ?_ (Nat.le_refl _)) | (with_reducible refine BSet ?_ hb.size) | (with_reducible refine BAlloc ?_))
      · refine bodyPost_ret (v := .agg #[.int .i64 (k : Int), .int .i64 2, .string S, .int .i64 0, .int .i64 (m : Int), .int .i64 0, .int .i64 0]) (by simp [results, Tryz.results76, go_sem, p0, p1, p2, p3, p4, p5, p6, g0, g1, g2, g3, g4, g5, g6, hl0]) rfl ?_
        rw [HR.out]
        refine ⟨?_, ?_⟩
        · unfold cutV
          simp only [HC2.out]
          rw [show k + (m - k) = m by omega, HNK.out]
          rfl
        · repeat (first | (with_reducible exact hb) | (with_reducible refine BSet ?_ (Nat.le_refl _)) | (with_reducible refine BSet ?_ hb.size) | (with_reducible refine BAlloc ?_))

end Go.Proofs.YtbhdkkkaeabkhaaGreatDoor
