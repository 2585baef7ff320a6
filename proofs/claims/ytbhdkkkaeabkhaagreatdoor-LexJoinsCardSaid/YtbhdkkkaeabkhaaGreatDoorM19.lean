/-
  coilref1.One.
  coilref1.One.
  A row of tokens that is known whole: made, copied into, written.
  coilref1.Join.
  The walks of coilbook's Roomy and Intact, at tokens.
  Plain laws: where the tokens stand. No program in sight.
  The walk of LexBack.
  The walk of LexJoins.
-/
import Derived.Test.YtbhdkkkaeabkhaaGreatDoorM17
import Derived.Test.YtbhdkkkaeabkhaaGreatDoorM18
import Derived.OwnWalk
import Derived.Laws.CopyOwn
import Derived.Lib.AppendStr
import Derived.Test.YtbhdkkkaeabkhaaGreatDoorM13
import Derived.Test.YtbhdkkkaeabkhaaGreatDoorM14
import Derived.Test.YtbhdkkkaeabkhaaGreatDoorM16
namespace Go.Proofs.YtbhdkkkaeabkhaaGreatDoor
open Go.RowKit
set_option linter.unusedSimpArgs false
set_option linter.unusedVariables false

set_option maxRecDepth 100000 in
set_option maxHeartbeats 4000000 in
theorem one_neg (w : World) (p k n : Int) (S : ByteArray) (hG : GL w) (hN : NG ≤ w.heap.size) (hs : S.size ≤ 1000000) (hn0 : -9223372036854775808 ≤ n) (hn1 : n ≤ 9223372036854775807) (hk : k = 4) (hneg : n < 0) :
    Calls Tryz.prog 55 #[.agg #[.int .i64 p, .int .i64 k, .string S, .int .i64 n]] w fun e w' => e = .returned (.tuple #[.string ⟨(Lx.oneR ⟨p, k, S.data.toList, n⟩).1.toArray⟩, .bool (Lx.oneR ⟨p, k, S.data.toList, n⟩).2]) ∧ LW w w' := by
  have hsi : (S.size : Int) ≤ 1000000 := by omega
  have H0 := LW.refl hG hN
  go_enter Tryz.func55, Tryz.ntmps55
  have hB := heap_alloc_new w (.cells #[.int .i64 p, .int .i64 k, .string S, .int .i64 n] 26)
  have hW := H0.alloc (.cells #[.int .i64 p, .int .i64 k, .string S, .int .i64 n] 26)
  obtain ⟨b0, b1, b2, b3⟩ := four_cells hB
  have HB := Lib.hid hB
  clear hB H0
  have HR := Lib.hid (show Lx.oneR ⟨p, k, S.data.toList, n⟩ = ([], false) by
    unfold Lx.oneR
    simp only
    rw [if_neg (by omega), if_pos hk, if_pos (.inl hneg)])
  have e1 : (k == 1) = false := by simp; omega
  have e2 : (k == 2) = false := by simp; omega
  have e3 : (k == 3) = false := by simp; omega
  have e4 : (k == 4) = true := by simp; omega
  clear hk
  go_upto_block 0 with fail
  obtain ⟨w2, hw2⟩ : ∃ w2, w.alloc (.cells #[.int .i64 p, .int .i64 k, .string S, .int .i64 n] 26) = w2 := ⟨_, rfl⟩
  rw [hw2] at b0 b1 b2 b3 HB hW ⊢
  have hz2 : w.heap.size < w2.heap.size := lt_of_block HB.out
  have HW := Lib.hid hW
  clear hw2 hW
  go_wp2_with fail
  refine bodyPost_ret (results_tmp2 rfl _ _ _) rfl ?_
  rw [HR.out]
  exact ⟨rfl, HW.out⟩

set_option maxRecDepth 100000 in
set_option maxHeartbeats 4000000 in
theorem one_number_bad (w : World) (p k n : Int) (S : ByteArray) (hG : GL w) (hN : NG ≤ w.heap.size) (hs : S.size ≤ 1000000) (hn0 : -9223372036854775808 ≤ n) (hn1 : n ≤ 9223372036854775807) (hk : k = 4) (hneg : 0 ≤ n) (hS : S.data.toList ≠ []) :
    Calls Tryz.prog 55 #[.agg #[.int .i64 p, .int .i64 k, .string S, .int .i64 n]] w fun e w' => e = .returned (.tuple #[.string ⟨(Lx.oneR ⟨p, k, S.data.toList, n⟩).1.toArray⟩, .bool (Lx.oneR ⟨p, k, S.data.toList, n⟩).2]) ∧ LW w w' := by
  have hsi : (S.size : Int) ≤ 1000000 := by omega
  have H0 := LW.refl hG hN
  go_enter Tryz.func55, Tryz.ntmps55
  have hB := heap_alloc_new w (.cells #[.int .i64 p, .int .i64 k, .string S, .int .i64 n] 26)
  have hW := H0.alloc (.cells #[.int .i64 p, .int .i64 k, .string S, .int .i64 n] 26)
  obtain ⟨b0, b1, b2, b3⟩ := four_cells hB
  have HB := Lib.hid hB
  clear hB H0
  have HR := Lib.hid (show Lx.oneR ⟨p, k, S.data.toList, n⟩ = ([], false) by
    unfold Lx.oneR
    simp only
    rw [if_neg (by omega), if_pos hk, if_pos (.inr hS)])
  have hempty : S.toList.isEmpty = false := by
    rw [ByteArray.toList_eq]
    cases h : S.data.toList with
    | nil => exact absurd h hS
    | cons a l => rfl
  have e1 : (k == 1) = false := by simp; omega
  have e2 : (k == 2) = false := by simp; omega
  have e3 : (k == 3) = false := by simp; omega
  have e4 : (k == 4) = true := by simp; omega
  have hnb : decide (n < 0) = false := by simpa using hneg
  clear hk hS
  go_upto_block 0 with fail
  obtain ⟨w2, hw2⟩ : ∃ w2, w.alloc (.cells #[.int .i64 p, .int .i64 k, .string S, .int .i64 n] 26) = w2 := ⟨_, rfl⟩
  rw [hw2] at b0 b1 b2 b3 HB hW ⊢
  have hz2 : w.heap.size < w2.heap.size := lt_of_block HB.out
  have HW := Lib.hid hW
  clear hw2 hW
  go_wp2_with fail
  refine bodyPost_ret (results_tmp2 rfl _ _ _) rfl ?_
  rw [HR.out]
  exact ⟨rfl, HW.out⟩

set_option maxRecDepth 100000 in
set_option maxHeartbeats 4000000 in
theorem one_number (w : World) (p k n : Int) (S : ByteArray) (hG : GL w) (hN : NG ≤ w.heap.size) (hs : S.size ≤ 1000000) (hn0 : -9223372036854775808 ≤ n) (hn1 : n ≤ 9223372036854775807) (hk : k = 4) (N : Nat) (hN4 : n = (N : Int)) (hS : S.data.toList = []) :
    Calls Tryz.prog 55 #[.agg #[.int .i64 p, .int .i64 k, .string S, .int .i64 n]] w fun e w' => e = .returned (.tuple #[.string ⟨(Lx.oneR ⟨p, k, S.data.toList, n⟩).1.toArray⟩, .bool (Lx.oneR ⟨p, k, S.data.toList, n⟩).2]) ∧ LW w w' := by
  have hsi : (S.size : Int) ≤ 1000000 := by omega
  have H0 := LW.refl hG hN
  go_enter Tryz.func55, Tryz.ntmps55
  have hB := heap_alloc_new w (.cells #[.int .i64 p, .int .i64 k, .string S, .int .i64 n] 26)
  have hW := H0.alloc (.cells #[.int .i64 p, .int .i64 k, .string S, .int .i64 n] 26)
  obtain ⟨b0, b1, b2, b3⟩ := four_cells hB
  have HB := Lib.hid hB
  clear hB H0
  have HR := Lib.hid (show Lx.oneR ⟨p, k, S.data.toList, n⟩ = (Lib.decDigits N, true) by
    unfold Lx.oneR
    simp only
    rw [if_neg (by omega), if_pos hk, if_neg (by rintro (h | h); omega; exact h hS)]
    rw [show n.toNat = N by omega])
  have hempty : S.toList.isEmpty = true := by
    rw [ByteArray.toList_eq, hS]
    rfl
  have e1 : (k == 1) = false := by simp; omega
  have e2 : (k == 2) = false := by simp; omega
  have e3 : (k == 3) = false := by simp; omega
  have e4 : (k == 4) = true := by simp; omega
  have hneg : 0 ≤ n := by omega
  have hNle : N ≤ 9223372036854775807 := by omega
  have HN4 := Lib.hid hN4
  clear hk hS hN4
  go_upto_block 0 with fail
  obtain ⟨w2, hw2⟩ : ∃ w2, w.alloc (.cells #[.int .i64 p, .int .i64 k, .string S, .int .i64 n] 26) = w2 := ⟨_, rfl⟩
  rw [hw2] at b0 b1 b2 b3 HB hW ⊢
  have hz2 : w.heap.size < w2.heap.size := lt_of_block HB.out
  have HW := Lib.hid hW
  clear hw2 hW
  have hdg := refDigits N w2 hNle HW.out.g HW.out.n
  rw [← HN4.out] at hdg
  go_wp2_with (go_at_call 37; refine hdg.mono ?_; clear hdg; rintro e W5 ⟨rfl, h5⟩)
  refine bodyPost_ret (results_tmp2 rfl _ _ _) rfl ?_
  rw [HR.out]
  exact ⟨rfl, HW.out.trans h5⟩

set_option maxRecDepth 100000 in
set_option maxHeartbeats 4000000 in
theorem one_text (w : World) (p k n : Int) (S : ByteArray) (hG : GL w) (hN : NG ≤ w.heap.size) (hs : S.size ≤ 1000000) (hn0 : -9223372036854775808 ≤ n) (hn1 : n ≤ 9223372036854775807) (hk : k = 5) :
    Calls Tryz.prog 55 #[.agg #[.int .i64 p, .int .i64 k, .string S, .int .i64 n]] w fun e w' => e = .returned (.tuple #[.string ⟨(Lx.oneR ⟨p, k, S.data.toList, n⟩).1.toArray⟩, .bool (Lx.oneR ⟨p, k, S.data.toList, n⟩).2]) ∧ LW w w' := by
  have hsi : (S.size : Int) ≤ 1000000 := by omega
  have H0 := LW.refl hG hN
  go_enter Tryz.func55, Tryz.ntmps55
  have hB := heap_alloc_new w (.cells #[.int .i64 p, .int .i64 k, .string S, .int .i64 n] 26)
  have hW := H0.alloc (.cells #[.int .i64 p, .int .i64 k, .string S, .int .i64 n] 26)
  obtain ⟨b0, b1, b2, b3⟩ := four_cells hB
  have HB := Lib.hid hB
  clear hB H0
  have HK := Lib.hid hk
  have e1 : (k == 1) = false := by simp; omega
  have e2 : (k == 2) = false := by simp; omega
  have e3 : (k == 3) = false := by simp; omega
  have e4 : (k == 4) = false := by simp; omega
  have e5 : (k == 5) = true := by simp; omega
  clear hk
  go_upto_block 0 with fail
  obtain ⟨w2, hw2⟩ : ∃ w2, w.alloc (.cells #[.int .i64 p, .int .i64 k, .string S, .int .i64 n] 26) = w2 := ⟨_, rfl⟩
  rw [hw2] at b0 b1 b2 b3 HB hW ⊢
  have hz2 : w.heap.size < w2.heap.size := lt_of_block HB.out
  have HW := Lib.hid hW
  clear hw2 hW
  go_wp2_with fail
  go_loopg [7] (S.size) (fun i v wr => ∃ m : Nat, i = S.size - m ∧ v = .int .i64 (m : Int) ∧ m ≤ S.size ∧ wr = w2 ∧ (S.data.toList.take m).all Lx.saidB = true)
  case atStart => exact ⟨0, rfl, rfl, Nat.zero_le _, rfl, rfl⟩
  case round =>
    obtain ⟨m, hi, rfl, hm, rfl, ha⟩ := hrel
    have HI := Lib.hid hi
    have HA := Lib.hid ha
    clear hi ha
    have m0 : (0 : Int) ≤ (m : Int) := by omega
    by_cases hlt : m < S.size
    · have hi : (m : Int) < (S.size : Int) := by omega
      have hsd := refSaid (S[m]'hlt) wr
      have HT := Lib.hid (take_one S m hlt)
      cases hb : Lx.saidB (S[m]'hlt) with
      | false =>
        rw [hb] at hsd
        have HR := Lib.hid (show Lx.oneR ⟨p, k, S.data.toList, n⟩ = ([], false) by
          unfold Lx.oneR
          simp only
          have h5 := HK.out
          rw [if_neg (by omega), if_neg (by omega), if_pos h5, if_neg]
          intro hall
          have hmem : S[m]'hlt ∈ S.data.toList := by
            have h := byte_at S m hlt
            exact List.mem_of_mem_drop (i := m) (by rw [h]; exact List.mem_cons_self ..)
          have := List.all_eq_true.1 hall _ hmem
          rw [hb] at this
          cases this)
        clear hb
        go_wp2_with (go_at_call 80; refine hsd.mono ?_; clear hsd; rintro e w' ⟨rfl, hwe⟩; rw [← hwe]; clear hwe)
        refine bodyPost_ret (results_tmp2 rfl _ _ _) rfl ?_
        rw [HR.out]
        exact ⟨rfl, HW.out⟩
      | true =>
        rw [hb] at hsd
        have HA2 := Lib.hid (show (S.data.toList.take (m + 1)).all Lx.saidB = true by
          rw [HT.out, List.all_append, HA.out]
          simp [hb])
        clear hb
        go_wp2_with (go_at_call 80; refine hsd.mono ?_; clear hsd; rintro e w' ⟨rfl, hwe⟩; rw [← hwe]; clear hwe)
        go_roundg (S.size - (m + 1))
        case measure => have := HI.out; omega
        case rel => exact ⟨m + 1, rfl, by simp, hlt, rfl, HA2.out⟩
    · have hi : ¬ (m : Int) < (S.size : Int) := by omega
      have HR := Lib.hid (show Lx.oneR ⟨p, k, S.data.toList, n⟩ = (Lx.quote S.data.toList, n == 0) by
        unfold Lx.oneR
        simp only
        have h5 := HK.out
        have h := HA.out
        rw [List.take_of_length_le (by rw [len_size]; omega)] at h
        rw [if_neg (by omega), if_neg (by omega), if_pos h5, if_pos h])
      cases hn : (n == 0) with
      | false =>
        rw [hn] at HR
        go_wp2_with fail
        go_quiet ((go_at_call 81; exact quiet_back (refQuote _ _ (by omega))))
        go_wp2_with fail
        refine bodyPost_ret (results_tmp2 rfl _ _ _) rfl ?_
        rw [HR.out]
        exact ⟨rfl, HW.out.drewN _⟩
      | true =>
        rw [hn] at HR
        go_wp2_with fail
        go_quiet ((go_at_call 81; exact quiet_back (refQuote _ _ (by omega))))
        go_wp2_with fail
        refine bodyPost_ret (results_tmp2 rfl _ _ _) rfl ?_
        rw [HR.out]
        exact ⟨rfl, HW.out.drewN _⟩

end Go.Proofs.YtbhdkkkaeabkhaaGreatDoor

namespace Go.Proofs.YtbhdkkkaeabkhaaGreatDoor
open Go.RowKit
set_option linter.unusedSimpArgs false
set_option linter.unusedVariables false

theorem sgs_step (l : Lx.Bytes) (m : Nat) (h : m < 14) : (sgs.take (m + 1)).contains l = ((sgs.take m).contains l || (sgs.getD m [] == l)) := by
  have hl : m < sgs.length := h
  rw [List.take_succ_eq_append_getElem hl, List.getD_eq_getElem?_getD, List.getElem?_eq_getElem hl, Bool.eq_iff_iff]
  simp only [List.contains_iff_mem, List.mem_append, List.mem_singleton, Bool.or_eq_true, beq_iff_eq, Option.getD_some]
  exact ⟨fun h => h.imp id Eq.symm, fun h => h.imp id Eq.symm⟩

set_option maxRecDepth 100000 in
set_option maxHeartbeats 4000000 in
theorem one_sign (w : World) (p k n : Int) (S : ByteArray) (hG : GL w) (hN : NG ≤ w.heap.size) (hs : S.size ≤ 1000000) (hn0 : -9223372036854775808 ≤ n) (hn1 : n ≤ 9223372036854775807) (hk : k = 6) :
    Calls Tryz.prog 55 #[.agg #[.int .i64 p, .int .i64 k, .string S, .int .i64 n]] w fun e w' => e = .returned (.tuple #[.string ⟨(Lx.oneR ⟨p, k, S.data.toList, n⟩).1.toArray⟩, .bool (Lx.oneR ⟨p, k, S.data.toList, n⟩).2]) ∧ LW w w' := by
  have hsi : (S.size : Int) ≤ 1000000 := by omega
  have H0 := LW.refl hG hN
  go_enter Tryz.func55, Tryz.ntmps55
  have hB := heap_alloc_new w (.cells #[.int .i64 p, .int .i64 k, .string S, .int .i64 n] 26)
  have hW := H0.alloc (.cells #[.int .i64 p, .int .i64 k, .string S, .int .i64 n] 26)
  obtain ⟨b0, b1, b2, b3⟩ := four_cells hB
  have HB := Lib.hid hB
  clear hB H0
  have HK := Lib.hid hk
  have e1 : (k == 1) = false := by simp; omega
  have e2 : (k == 2) = false := by simp; omega
  have e3 : (k == 3) = false := by simp; omega
  have e4 : (k == 4) = false := by simp; omega
  have e5 : (k == 5) = false := by simp; omega
  have e6 : (k == 6) = true := by simp; omega
  clear hk
  go_upto_block 0 with fail
  obtain ⟨w2, hw2⟩ : ∃ w2, w.alloc (.cells #[.int .i64 p, .int .i64 k, .string S, .int .i64 n] 26) = w2 := ⟨_, rfl⟩
  rw [hw2] at b0 b1 b2 b3 HB hW ⊢
  have hz2 : w.heap.size < w2.heap.size := lt_of_block HB.out
  have HW := Lib.hid hW
  clear hw2 hW
  go_upto_region 20 with (go_at_call 75; refine (refSigns _).mono ?_; rintro e W1 ⟨rfl, hWe⟩; rw [hWe]; clear hWe)
  have hblk := heap_alloc_new w2 (.cells sgCells 9)
  have hb4 := heap_alloc HB.out (.cells sgCells 9)
  have hw4 := HW.out.alloc (.cells sgCells 9)
  have hsz := World.size_alloc w2 (.cells sgCells 9)
  obtain ⟨L, hL⟩ : ∃ L, w2.heap.size = L := ⟨_, rfl⟩
  obtain ⟨W2, hW2⟩ : ∃ W2, w2.alloc (.cells sgCells 9) = W2 := ⟨_, rfl⟩
  rw [hL, hW2] at hblk
  rw [hW2] at hb4 hw4
  rw [hL, hW2]
  have HS2 := Lib.hid hblk
  have HB2 := Lib.hid hb4
  have HW2 := Lib.hid hw4
  clear hblk hb4 hw4 hsz hL hW2 b0 b1 b2 b3 HB HW hz2
  go_wp2_with fail
  go_loopg [9] 14 (fun i v wr => ∃ m : Nat, i = 14 - m ∧ v = .int .i64 (m : Int) ∧ m ≤ 14 ∧ wr.heap = W2.heap ∧ LW w wr ∧ (sgs.take m).contains S.data.toList = false)
  case atStart => exact ⟨0, rfl, rfl, Nat.zero_le _, rfl, HW2.out, rfl⟩
  case round =>
    obtain ⟨m, hi, rfl, hm, hwe, hwl, hc⟩ := hrel
    have HI := Lib.hid hi
    have HC := Lib.hid hc
    have HWE := Lib.hid hwe
    have HWL := Lib.hid hwl
    have HS3 : Hid (wr.heap[L]? = some (.cells sgCells 9 (0, 0))) := Lib.hid (by rw [hwe]; exact HS2.out)
    have hB3 : wr.heap[w.heap.size]? = some (.cells #[.int .i64 p, .int .i64 k, .string S, .int .i64 n] 26 (0, 0)) := by rw [hwe]; exact HB2.out
    obtain ⟨c0, c1, c2, c3⟩ := four_cells hB3
    have HB3 := Lib.hid hB3
    have hl3 := lt_of_block hB3
    have hl4 := lt_of_block HS3.out
    clear hi hc hwe hwl hB3
    by_cases hlt : m < 14
    · have hi2 : (m : Int) < 14 := by omega
      have hi0 : (0 : Int) ≤ (m : Int) := by omega
      have t0 := (cell_of HS3.out m).trans (sgCells_at m hlt)
      have hst := sgs_step S.data.toList m hlt
      rw [HC.out, Bool.false_or] at hst
      obtain ⟨x, hx⟩ : ∃ x, sgs.getD m [] = x := ⟨_, rfl⟩
      have hmem : x ∈ sgs := by
        rw [← hx, List.getD_eq_getElem?_getD, List.getElem?_eq_getElem (show m < sgs.length from hlt)]
        exact List.getElem_mem _
      rw [hx] at t0 hst
      obtain ⟨X, hX⟩ : ∃ X : ByteArray, (⟨x.toArray⟩ : ByteArray) = X := ⟨_, rfl⟩
      have hcmp : (X.toList == S.toList) = (x == S.data.toList) := by rw [← hX, ByteArray.toList_mk, ByteArray.toList_eq]
      rw [hX] at t0
      clear hX hx
      cases hq : (x == S.data.toList) with
      | true =>
        rw [hq] at hcmp
        have HR := Lib.hid (show Lx.oneR ⟨p, k, S.data.toList, n⟩ = (S.data.toList, n == 0) by
          unfold Lx.oneR
          simp only
          have h6 := HK.out
          rw [if_neg (by omega), if_neg (by omega), if_neg (by omega), if_pos h6, if_pos]
          rw [List.contains_iff_mem, ← show x = S.data.toList by simpa using hq]
          exact hmem)
        clear hst hq hmem
        go_wp2_with fail
        go_quiet (fail)
        obtain ⟨W4, hW4⟩ : ∃ W4, wr.drewN nq = W4 := ⟨_, rfl⟩
        have HW4 : Hid (LW w W4) := Lib.hid (by rw [← hW4]; exact HWL.out.drewN _)
        have hB4 : W4.heap[w.heap.size]? = some (.cells #[.int .i64 p, .int .i64 k, .string S, .int .i64 n] 26 (0, 0)) := by rw [← hW4]; exact HB3.out
        rw [hW4]
        clear hW4 c0 c1 c2 c3 t0 hl3 hl4
        obtain ⟨c0, c1, c2, c3⟩ := four_cells hB4
        have hl3 := lt_of_block hB4
        clear hB4
        cases hn : (n == 0) with
        | false =>
          rw [hn] at HR
          go_wp2_with fail
          go_quiet (fail)
          go_wp2_with fail
          refine bodyPost_ret (results_tmp2 rfl _ _ _) rfl ?_
          rw [HR.out, mk_back]
          exact ⟨rfl, HW4.out.drewN _⟩
        | true =>
          rw [hn] at HR
          go_wp2_with fail
          go_quiet (fail)
          go_wp2_with fail
          refine bodyPost_ret (results_tmp2 rfl _ _ _) rfl ?_
          rw [HR.out, mk_back]
          exact ⟨rfl, HW4.out.drewN _⟩
      | false =>
        rw [hq] at hcmp hst
        have HG := Lib.hid hst
        clear hst hq hmem
        go_wp2_with fail
        go_quiet (fail)
        go_wp2_with fail
        go_roundg (14 - (m + 1))
        case measure => have := HI.out; omega
        case rel => exact ⟨m + 1, rfl, by simp, hlt, HWE.out, HWL.out.drewN _, HG.out⟩
    · have hi2 : ¬ (m : Int) < 14 := by omega
      have hme : m = 14 := by omega
      have HR := Lib.hid (show Lx.oneR ⟨p, k, S.data.toList, n⟩ = ([], false) by
        unfold Lx.oneR
        simp only
        have h6 := HK.out
        have h := HC.out
        rw [hme, List.take_of_length_le (show sgs.length ≤ 14 from Nat.le_refl _)] at h
        rw [if_neg (by omega), if_neg (by omega), if_neg (by omega), if_pos h6, if_neg (by rw [h]; simp)])
      clear hme
      go_wp2_with fail
      refine bodyPost_ret (results_tmp2 rfl _ _ _) rfl ?_
      rw [HR.out]
      exact ⟨rfl, HWL.out⟩

set_option maxRecDepth 100000 in
set_option maxHeartbeats 4000000 in
theorem one_other (w : World) (p k n : Int) (S : ByteArray) (hG : GL w) (hN : NG ≤ w.heap.size) (hs : S.size ≤ 1000000) (hn0 : -9223372036854775808 ≤ n) (hn1 : n ≤ 9223372036854775807) (hk : ¬ (k = 1 ∨ k = 2 ∨ k = 3 ∨ k = 4 ∨ k = 5 ∨ k = 6)) :
    Calls Tryz.prog 55 #[.agg #[.int .i64 p, .int .i64 k, .string S, .int .i64 n]] w fun e w' => e = .returned (.tuple #[.string ⟨(Lx.oneR ⟨p, k, S.data.toList, n⟩).1.toArray⟩, .bool (Lx.oneR ⟨p, k, S.data.toList, n⟩).2]) ∧ LW w w' := by
  have hsi : (S.size : Int) ≤ 1000000 := by omega
  have H0 := LW.refl hG hN
  go_enter Tryz.func55, Tryz.ntmps55
  have hB := heap_alloc_new w (.cells #[.int .i64 p, .int .i64 k, .string S, .int .i64 n] 26)
  have hW := H0.alloc (.cells #[.int .i64 p, .int .i64 k, .string S, .int .i64 n] 26)
  obtain ⟨b0, b1, b2, b3⟩ := four_cells hB
  have HB := Lib.hid hB
  clear hB H0
  have HR := Lib.hid (show Lx.oneR ⟨p, k, S.data.toList, n⟩ = ([], false) by
    unfold Lx.oneR
    simp only
    rw [if_neg (by omega), if_neg (by omega), if_neg (by omega), if_neg (by omega)])
  have e1 : (k == 1) = false := by simp; omega
  have e2 : (k == 2) = false := by simp; omega
  have e3 : (k == 3) = false := by simp; omega
  have e4 : (k == 4) = false := by simp; omega
  have e5 : (k == 5) = false := by simp; omega
  have e6 : (k == 6) = false := by simp; omega
  clear hk
  go_upto_block 0 with fail
  obtain ⟨w2, hw2⟩ : ∃ w2, w.alloc (.cells #[.int .i64 p, .int .i64 k, .string S, .int .i64 n] 26) = w2 := ⟨_, rfl⟩
  rw [hw2] at b0 b1 b2 b3 HB hW ⊢
  have hz2 : w.heap.size < w2.heap.size := lt_of_block HB.out
  have HW := Lib.hid hW
  clear hw2 hW
  go_wp2_with fail
  refine bodyPost_ret (results_tmp2 rfl _ _ _) rfl ?_
  rw [HR.out]
  exact ⟨rfl, HW.out⟩

theorem oneR_name {p k n : Int} {S : ByteArray} (hk : k = 1 ∨ k = 2 ∨ k = 3) : (Lx.oneR ⟨p, k, S.data.toList, n⟩).1.toArray = S.data ∧ (Lx.oneR ⟨p, k, S.data.toList, n⟩).2 = Lx.nameOk ⟨p, k, S.data.toList, n⟩ := by
  unfold Lx.oneR
  rw [if_pos hk]
  exact ⟨by simp, rfl⟩
/-- coilref1.One: what lex writes. -/
theorem refOneS (w : World) (p k n : Int) (S : ByteArray) (hG : GL w) (hN : NG ≤ w.heap.size) (hs : S.size ≤ 1000000) (hn0 : -9223372036854775808 ≤ n) (hn1 : n ≤ 9223372036854775807) :
    Calls Tryz.prog 55 #[.agg #[.int .i64 p, .int .i64 k, .string S, .int .i64 n]] w fun e w' => e = .returned (.tuple #[.string ⟨(Lx.oneR ⟨p, k, S.data.toList, n⟩).1.toArray⟩, .bool (Lx.oneR ⟨p, k, S.data.toList, n⟩).2]) ∧ LW w w' := by
  by_cases h : k = 1 ∨ k = 2 ∨ k = 3
  · obtain ⟨e1, e2⟩ := oneR_name (p := p) (n := n) (S := S) h
    rw [e1, e2]
    rcases h with h | h | h
    · exact one_name1 w p k n S hG hN hs hn0 hn1 h
    · exact one_name2 w p k n S hG hN hs hn0 hn1 h
    · exact one_name3 w p k n S hG hN hs hn0 hn1 h
  · by_cases h4 : k = 4
    · by_cases hneg : n < 0
      · exact one_neg w p k n S hG hN hs hn0 hn1 h4 hneg
      · by_cases hS : S.data.toList = []
        · exact one_number w p k n S hG hN hs hn0 hn1 h4 n.toNat (by omega) hS
        · exact one_number_bad w p k n S hG hN hs hn0 hn1 h4 (by omega) hS
    · by_cases h5 : k = 5
      · exact one_text w p k n S hG hN hs hn0 hn1 h5
      · by_cases h6 : k = 6
        · exact one_sign w p k n S hG hN hs hn0 hn1 h6
        · exact one_other w p k n S hG hN hs hn0 hn1 (by omega)
theorem refOne {w W : World} (h : LW w W) (t : Lx.Tok) (hs : t.s.length ≤ 1000000) (hn0 : -9223372036854775808 ≤ t.n) (hn1 : t.n ≤ 9223372036854775807) :
    Calls Tryz.prog 55 #[.agg #[.int .i64 t.pos, .int .i64 t.kind, .string ⟨t.s.toArray⟩, .int .i64 t.n]] W fun e W' => e = .returned (.tuple #[.string ⟨(Lx.oneR t).1.toArray⟩, .bool (Lx.oneR t).2]) ∧ LW w W' :=
  (refOneS W t.pos t.kind t.n ⟨t.s.toArray⟩ h.g h.n hs hn0 hn1).mono fun e W' h' => ⟨h'.1, h.trans h'.2⟩

end Go.Proofs.YtbhdkkkaeabkhaaGreatDoor

namespace Go.Proofs.YtbhdkkkaeabkhaaGreatDoor
open Go.RowKit
set_option linter.unusedSimpArgs false
set_option linter.unusedVariables false

/-- A row of tokens that is known whole. -/
def RowW (w : World) (g : Nat) (us : List Lx.Tok) : Prop := w.heap[g]? = some (.cells (us.flatMap cellsT).toArray 26 (0, 0))
def zeroT : Lx.Tok := ⟨0, 0, [], 0⟩
theorem flat_len : ∀ (us : List Lx.Tok), (us.flatMap cellsT).length = us.length * 4
  | [] => rfl
  | t :: us => by
    rw [List.flatMap_cons, List.length_append, flat_len us, List.length_cons]
    simp [cellsT]
    omega
theorem flat_one (us : List Lx.Tok) : ∀ v ∈ us.flatMap cellsT, v.oneCell' = true := by
  intro v hv
  obtain ⟨t, _, ht⟩ := List.mem_flatMap.1 hv
  simp only [cellsT, List.mem_cons, List.not_mem_nil, or_false] at ht
  rcases ht with rfl | rfl | rfl | rfl <;> rfl
theorem made_toks (n : Nat) : (madeCells (Value.agg #[.int .i64 0, .int .i64 0, .string ⟨#[]⟩, .int .i64 0]).cells (n * 4)).toList = (List.replicate n zeroT).flatMap cellsT := by
  apply List.ext_getElem?
  intro j
  by_cases hj : j < n * 4
  · have e : j = j / 4 * 4 + j % 4 := by omega
    have h1 : ((List.replicate n zeroT).flatMap cellsT)[j]? = (cellsT zeroT)[j % 4]? := by
      rw [e, flat_at _ (j / 4) (by rw [List.length_replicate]; omega) (j % 4) (by omega), List.getElem_replicate]
      congr 1
      omega
    rw [h1]
    have h4 : j % 4 < 4 := by omega
    have hz : (Value.agg #[.int .i64 0, .int .i64 0, .string ⟨#[]⟩, .int .i64 0]).cells = (cellsT zeroT).toArray := rfl
    rw [hz]
    simp only [madeCells, Array.toList_map, Array.toList_range, List.getElem?_map, List.getElem?_range hj, Option.map_some]
    rw [show (cellsT zeroT).toArray.size = 4 from rfl]
    generalize j % 4 = q at h4
    match q, h4 with
    | 0, _ => rfl
    | 1, _ => rfl
    | 2, _ => rfl
    | 3, _ => rfl
  · rw [List.getElem?_eq_none (by rw [Array.length_toList, size_madeCells]; omega), List.getElem?_eq_none (by rw [flat_len, List.length_replicate]; omega)]
theorem flat_set : ∀ (us : List Lx.Tok) (m : Nat), m < us.length → ∀ (u : Lx.Tok),
    ((((us.flatMap cellsT).set (m * 4) (.int .i64 u.pos)).set (m * 4 + 1) (.int .i64 u.kind)).set (m * 4 + 2) (.string ⟨u.s.toArray⟩)).set (m * 4 + 3) (.int .i64 u.n) = (us.set m u).flatMap cellsT
  | [], m, h, u => by simp at h
  | t :: us, 0, h, u => rfl
  | t :: us, m + 1, h, u => by
    have ih := flat_set us m (by simpa using h) u
    rw [List.set_cons_succ, List.flatMap_cons, List.flatMap_cons, ← ih, show (m + 1) * 4 = m * 4 + 1 + 1 + 1 + 1 by omega]
    rfl
theorem heap_set {w : World} {g t : Nat} {cs : Array Value} (h : w.heap[g]? = some (.cells cs t (0, 0))) (j : Nat) (v : Value) : (w.setCell ⟨g, j, none⟩ v).heap[g]? = some (.cells (cs.setIfInBounds j v) t (0, 0)) := by
  simp [World.setCell, Array.getElem?_modify, h]
theorem RowW.set {w : World} {g m : Nat} {us : List Lx.Tok} (h : RowW w g us) (hm : m < us.length) (u : Lx.Tok) :
    RowW ((((w.setCell ⟨g, m * 4, none⟩ (.int .i64 u.pos)).setCell ⟨g, m * 4 + 1, none⟩ (.int .i64 u.kind)).setCell ⟨g, m * 4 + 2, none⟩ (.string ⟨u.s.toArray⟩)).setCell ⟨g, m * 4 + 3, none⟩ (.int .i64 u.n)) g (us.set m u) := by
  have h4 := heap_set (heap_set (heap_set (heap_set h (m * 4) (.int .i64 u.pos)) (m * 4 + 1) (.int .i64 u.kind)) (m * 4 + 2) (.string ⟨u.s.toArray⟩)) (m * 4 + 3) (.int .i64 u.n)
  refine h4.trans ?_
  rw [← flat_set us m hm u]
  simp
theorem RowW.at {w : World} {g m : Nat} {us : List Lx.Tok} (h : RowW w g us) (hm : m < us.length) :
    w.cell? ⟨g, m * 4, none⟩ = some (.int .i64 (us[m]'hm).pos) ∧ w.cell? ⟨g, m * 4 + 1, none⟩ = some (.int .i64 (us[m]'hm).kind) ∧ w.cell? ⟨g, m * 4 + 2, none⟩ = some (.string ⟨(us[m]'hm).s.toArray⟩) ∧ w.cell? ⟨g, m * 4 + 3, none⟩ = some (.int .i64 (us[m]'hm).n) :=
  toks_at h (by rw [List.take_of_length_le (by rw [flat_len]; exact Nat.le_refl _)]) hm
theorem RowW.free {w : World} {g m : Nat} {us : List Lx.Tok} (h : RowW w g us) : w.frozen? ⟨g, m * 4, none⟩ = false ∧ w.frozen? ⟨g, m * 4 + 1, none⟩ = false ∧ w.frozen? ⟨g, m * 4 + 2, none⟩ = false ∧ w.frozen? ⟨g, m * 4 + 3, none⟩ = false :=
  ⟨free_of h _, free_of h _, free_of h _, free_of h _⟩
theorem RowW.lt {w : World} {g : Nat} {us : List Lx.Tok} (h : RowW w g us) : g < w.heap.size := lt_of_block h
theorem RowW.below {w w' : World} {g : Nat} {us : List Lx.Tok} (h : RowW w g us) (hb : Below w.heap.size w w') : RowW w' g us := (hb.block g h.lt).trans h
/-- Its beginning, as a row that is read. -/
theorem RowW.toks {w : World} {g c : Nat} {us ts : List Lx.Tok} (h : RowW w g us) (he : us.take ts.length = ts) : ToksIn w (.slice (some ⟨g, 0, none⟩) ts.length c) ts := by
  refine .inr ⟨g, c, _, _, rfl, h, ?_⟩
  show (us.flatMap cellsT).take (ts.length * 4) = _
  have e : us = ts ++ us.drop ts.length := by conv => lhs; rw [← List.take_append_drop ts.length us, he]
  rw [e, List.flatMap_append, ← flat_len ts, List.take_left]

theorem run_copy4 {P : Program} (w : World) (dT sT ty elem : TypeId) (g dLen dCap : Nat) (a : Addr) (sLen sCap : Nat) (cur : Array Value) (t : TypeId) (cs : List Value)
    (hu : P.underlying dT = some (.slice elem)) (hs : (P.info? elem).map (·.size) = some 4)
    (hg : w.heap[g]? = some (.cells cur t (0, 0))) (hn : cs.length = Nat.min sLen dLen * 4)
    (hsrc : ∀ j v, cs[j]? = some v → w.cell? (a.add j) = some v) (hfit : cs.length ≤ cur.size) (h1 : ∀ v ∈ cs, v.oneCell' = true) :
    (Builtin.copy_ #[dT, sT] ty #[.slice (some ⟨g, 0, none⟩) dLen dCap, .slice (some a) sLen sCap]).run P w =
      .ok (goInt (Nat.min sLen dLen)) (w.setRow g (cs ++ cur.toList.drop cs.length).toArray) := by
  have hl := run_loadCells_list (P := P) w a cs hsrc
  have hst := run_storeCells_at P g 0 t cs 0 cur w hg (by simpa using hfit) h1
  cases hq : P.info? elem with
  | none => simp [hq] at hs
  | some i =>
    have hi : i.size = 4 := by simpa [hq] using hs
    simp only [List.take_zero, Nat.add_zero, List.nil_append, Nat.zero_add] at hst
    simp [Builtin.copy_, run_underlying hu, Builtin.lenOf, Builtin.firstCells, sizeOf, typeInfo, hq, hi, ← hn, hl, hst]
theorem run_copy4_none {P : Program} (w : World) (dT sT ty elem : TypeId) (d a : Option Addr) (dLen dCap sCap : Nat) (hu : P.underlying dT = some (.slice elem)) (hs : (P.info? elem).map (·.size) = some 4) :
    (Builtin.copy_ #[dT, sT] ty #[.slice d dLen dCap, .slice a 0 sCap]).run P w = .ok (goInt 0) w := by
  cases hq : P.info? elem with
  | none => simp [hq] at hs
  | some i =>
    have hl : ∀ (x : Addr), (loadCells x 0).run P w = .ok #[] w := fun x => by simpa using run_loadCells_list (P := P) w x [] (by simp)
    cases d <;> cases a <;> simp [Builtin.copy_, run_underlying hu, Builtin.lenOf, Builtin.firstCells, sizeOf, typeInfo, hq, storeCells, hl]
theorem infoTok4 : (Tryz.prog.info? 26).map (·.size) = some 4 := by
  have h := infoTok
  cases hq : Tryz.prog.info? 26 with
  | none => rw [hq] at h; cases h
  | some i =>
    rw [hq] at h
    simp only [Option.map_some, Option.some.injEq, Prod.mk.injEq] at h
    simp [h.2.1]
theorem grown_setRow (w : World) (g : Nat) (cs : Array Value) : w.grownBy (w.setRow g cs) (some g) :=
  ⟨rfl, rfl, rfl, by simp [World.setRow], fun k hk hne => setRow_other w g k cs (fun e => hne (by rw [e]))⟩
/-- copy(full, l), a row of tokens that was made. -/
theorem wpList_copy_toks {ops : Array Oper} {rest : List Oper} {o : Oper} {a : Act} {Q : Exit → Act → World → Prop} {w : World} (hgd : o.guard = none) (d s : Operand)
    (ho : o.op = .call { callee := .builtin .copy, args := #[d, s], argTypes := #[28, 28] }) (g : Nat) (us ts : List Lx.Tok) (v : Value) (n c : Nat)
    (hd : a.eval d = .slice (some ⟨g, 0, none⟩) n c) (hs : a.eval s = v) (hv : ToksIn w v ts) (hg : RowW w g us) (hnu : n = us.length) (hl : ts.length ≤ us.length)
    (h : ∀ w', RowW w' g (ts ++ us.drop ts.length) → w.grownBy w' (some g) → wpList Tryz.prog ops Q rest (a.put o.dst (goInt ts.length)) w') : wpList Tryz.prog ops Q (o :: rest) a w := by
  subst hnu
  refine wpList_plain hgd fun K hK => ?_
  rcases hv with ⟨rfl, a0, c0, rfl⟩ | ⟨gs, cp, cur, fr, rfl, hgs, hcur⟩
  · have hrun := run_copy4_none (P := Tryz.prog) w 28 28 o.type 26 (some ⟨g, 0, none⟩) a0 us.length c c0 Tryz.underlying28 infoTok4
    unfold Oper.wp
    simp [execOp, ho, resolve, invoke, builtin, hd, hs, hrun, Result.andThen]
    exact hK _ _ (h w hg (World.grownBy.refl _ _))
  · have hmin : Nat.min ts.length us.length = ts.length := Nat.min_eq_left hl
    have hrun := run_copy4 (P := Tryz.prog) w 28 28 o.type 26 g us.length c ⟨gs, 0, none⟩ ts.length cp _ _ (ts.flatMap cellsT) Tryz.underlying28 infoTok4 hg (by rw [hmin, flat_len])
      (by
        intro j u hj
        have e : (⟨gs, 0, none⟩ : Addr).add j = ⟨gs, j, none⟩ := by
          by_cases h0 : j = 0
          · subst h0; simp [Addr.add]
          · simp [Addr.add, h0]
        have hjl : j < ts.length * 4 := by
          have := (List.getElem?_eq_some_iff.1 hj).1
          rw [flat_len] at this
          exact this
        rw [e, cell_of hgs, ← Array.getElem?_toList, ← hj, ← hcur, List.getElem?_take_of_lt hjl])
      (by simp only [List.size_toArray, flat_len]; omega) (flat_one ts)
    have e : ts.flatMap cellsT ++ (us.flatMap cellsT).toArray.toList.drop (ts.flatMap cellsT).length = (ts ++ us.drop ts.length).flatMap cellsT := by
      have e2 : us.flatMap cellsT = (us.take ts.length).flatMap cellsT ++ (us.drop ts.length).flatMap cellsT := by rw [← List.flatMap_append, List.take_append_drop]
      have e3 : (ts.flatMap cellsT).length = ((us.take ts.length).flatMap cellsT).length := by rw [flat_len, flat_len, List.length_take, Nat.min_eq_left hl]
      rw [List.flatMap_append]
      show ts.flatMap cellsT ++ (us.flatMap cellsT).drop _ = _
      rw [e2, e3, List.drop_left]
    rw [hmin, e] at hrun
    obtain ⟨X, hX⟩ : ∃ X, ts ++ us.drop ts.length = X := ⟨_, rfl⟩
    rw [hX] at hrun h
    obtain ⟨C, hC⟩ : ∃ C, (X.flatMap cellsT).toArray = C := ⟨_, rfl⟩
    rw [hC] at hrun
    unfold Oper.wp
    simp [execOp, ho, resolve, invoke, builtin, hd, hs, hrun, Result.andThen]
    refine hK _ _ (h _ ?_ (grown_setRow _ _ _))
    unfold RowW
    rw [hC]
    exact setRow_heap w g _ _ _ _ hg

end Go.Proofs.YtbhdkkkaeabkhaaGreatDoor

namespace Go.Proofs.YtbhdkkkaeabkhaaGreatDoor
open Go.RowKit
set_option linter.unusedSimpArgs false
set_option linter.unusedVariables false

namespace Lx
theorem join_bad {ts : List Tok} {t : Tok} (ht : t ∈ ts) (h : (written t).2 = false) : join ts = ([], 1) := by
  unfold join
  cases hj : joinFrom 0 [] ts with
  | none => rfl
  | some b =>
    have := (joinFrom_len ts _ _ _ hj).2 t ht
    rw [h] at this
    cases this
theorem join_long {ts rest : List Tok} {b : Bytes} {m : Nat} (h : joinFrom m b rest = joinFrom 0 [] ts) (hw : ∀ t ∈ rest, (written t).2 = true) (hb : 65536 < b.length) : join ts = ([], 2) := by
  obtain ⟨b', hj⟩ := join_written rest m b hw
  have hl := (joinFrom_len rest _ _ _ hj).1
  unfold join
  rw [← h, hj]
  simp only
  rw [if_pos (by omega)]
theorem join_end {ts : List Tok} {b : Bytes} {m : Nat} (h : joinFrom m b [] = joinFrom 0 [] ts) (hb : b.length ≤ 65536) : join ts = if 4096 < ts.length then ([], 3) else (b, 0) := by
  unfold join
  rw [← h]
  show (if 65536 < b.length then _ else _) = _
  rw [if_neg (by omega)]
theorem join_step {m : Nat} {b : Bytes} {t : Tok} {l : List Tok} (hw : (written t).2 = true) (hb : b.length ≤ 65536) : joinFrom m b (t :: l) = joinFrom (m + 1) ((if 0 < m then b ++ [32] else b) ++ (written t).1) l := by
  show (if (written t).2 then joinFrom (m + 1) (joinStep m b (written t).1) l else none) = _
  rw [if_pos hw, joinStep, if_neg (by omega)]
end Lx

/-- append(v, x...), x a text. -/
theorem appStr {ops : Array Oper} {rest : List Oper} {o : Oper} {a : Act} {Q : Exit → Act → World → Prop} {W : World} (base : Nat) (hgd : o.guard = none) (s x : Operand)
    (ho : o.op = .call { callee := .builtin .append, args := #[s, x], argTypes := #[66, 9] })
    (v : Value) (l y : List UInt8) (hs : a.eval s = v) (hx : a.eval x = .string ⟨y.toArray⟩) (HO : OwnB W base v l) (hbase : base ≤ W.heap.size) (hl : l.length + y.length ≤ 140737488351232)
    (h : ∀ v1 w1, OwnB w1 base v1 (l ++ y) → W.grownBy w1 v.ownBlock → wpList Tryz.prog ops Q rest (a.put o.dst v1) w1) :
    wpList Tryz.prog ops Q (o :: rest) a W := by
  obtain ⟨i0, hi, hz0, hz1, hz2⟩ := info_parts infoU8
  refine Lib.wpList_append_own_string W hgd s x 66 9 ho base 5 i0 Tryz.underlying66 Tryz.underlying9 hi hz0 hz1 hz2 v l.length (bytesV l) hs HO ⟨y.toArray⟩ hx (by unfold maxLen; show l.length + y.length ≤ _; omega) (by show l.length + y.length ≤ _; omega) hbase ?_
  intro v1 w1 hown hg _
  refine h v1 w1 ?_ hg
  unfold OwnB
  rw [List.length_append, show bytesV (l ++ y) = bytesV l ++ Lib.strCells ⟨y.toArray⟩ by unfold bytesV Lib.strCells; rw [List.map_append]]
  exact hown
theorem LW.turn {w W W' : World} {row : Option Nat} (h : LW w W) (hG : GL w) (hg : W.grownBy W' row) (hr : ∀ r, row = some r → w.heap.size ≤ r) : LW w W' :=
  have hb := Below.turn h.b hg hr
  ⟨hb, hG.below hb, Nat.le_trans h.n hg.size⟩
theorem OwnB.below {W W' : World} {v : Value} {l : List UInt8} {base : Nat} (h : OwnB W base v l) (hb : Below W.heap.size W W') : OwnB W' base v l :=
  World.ownsRow.kept h (below_grown hb) (by cases v.ownBlock <;> simp)
theorem LW.grown {w W W' : World} (h : LW w W) (hg : W.grownBy W' none) : LW w W' := h.go (grown_below hg)

set_option maxRecDepth 100000 in
set_option maxHeartbeats 4000000 in
theorem refJoinS (ts : List Lx.Tok) (v : Value) (w : World) (hG : GL w) (hN : NG ≤ w.heap.size) (hv : ToksIn w v ts) (hl : ts.length ≤ 1000000000)
    (hts : ∀ t ∈ ts, t.s.length ≤ 1000000 ∧ -9223372036854775808 ≤ t.n ∧ t.n ≤ 9223372036854775807) :
    Calls Tryz.prog 33 #[v] w fun e w' => e = .returned (.tuple #[.string ⟨(Lx.join ts).1.toArray⟩, .int .i64 (Lx.join ts).2]) ∧ LW w w' := by
  have H0 := Lib.hid (LW.refl hG hN)
  obtain ⟨a0, cp, rfl⟩ := hv.slice
  have HV := Lib.hid hv
  clear hv
  go_enter Tryz.func33, Tryz.ntmps33
  go_wp2_with fail
  go_loopg [4] (ts.length) (fun n v wr => ∃ (m : Nat), n = ts.length - m ∧ v = .int .i64 (m : Int) ∧ m ≤ ts.length ∧ LW w wr ∧ ∀ t ∈ ts.take m, (Lx.written t).2 = true)
  case atStart => exact ⟨0, rfl, rfl, Nat.zero_le _, H0.out, by simp⟩
  case round =>
    obtain ⟨m, hn, rfl, hm, hW, ha⟩ := hrel
    have HN := Lib.hid hn
    have HW := Lib.hid hW
    have HA := Lib.hid ha
    clear hn hW ha
    have m0 : (0 : Int) ≤ (m : Int) := by omega
    have mi : (m : Int) ≤ 1000000000 := by omega
    by_cases hlt : m < ts.length
    · have hi : (m : Int) < (ts.length : Int) := by omega
      obtain ⟨g, cur, fr, rfl, hgb, hcur⟩ := HV.out.at hlt
      have hgb' := (HW.out.b.block g (lt_of_block hgb)).trans hgb
      obtain ⟨t0, t1, t2, t3⟩ := toks_at hgb' hcur hlt
      have hgl := lt_of_block hgb'
      obtain ⟨t, ht⟩ : ∃ t, ts[m]'hlt = t := ⟨_, rfl⟩
      rw [ht] at t0 t1 t2 t3
      obtain ⟨ht1, ht2, ht3⟩ := hts t (by rw [← ht]; exact List.getElem_mem hlt)
      have HTM := Lib.hid (show ts.take (m + 1) = ts.take m ++ [t] by rw [List.take_succ_eq_append_getElem hlt, ht])
      have HME := Lib.hid (show t ∈ ts by rw [← ht]; exact List.getElem_mem hlt)
      have hon := refOne HW.out t ht1 ht2 ht3
      obtain ⟨h1, h2⟩ := Lx.one_written (t := t) ht3
      rw [h1] at hon
      obtain ⟨x, hx⟩ : ∃ x, (Lx.oneR t).1 = x := ⟨_, rfl⟩
      rw [hx] at hon
      clear ht hgb hgb' hcur h1 h2 hx
      cases hok : (Lx.written t).2 with
      | false =>
        have HR := Lib.hid (Lx.join_bad HME.out hok)
        rw [hok] at hon
        clear hok
        go_wp2_with (go_at_call 55; refine hon.mono ?_; clear hon; rintro e W5 ⟨rfl, h5⟩)
        refine bodyPost_ret (results_tmp2 rfl _ _ _) rfl ?_
        rw [HR.out]
        exact ⟨rfl, h5⟩
      | true =>
        have HOK := Lib.hid hok
        rw [hok] at hon
        clear hok
        go_wp2_with (go_at_call 55; refine hon.mono ?_; clear hon; rintro e W5 ⟨rfl, h5⟩)
        go_roundg (ts.length - (m + 1))
        case measure => have := HN.out; omega
        case rel =>
          refine ⟨m + 1, rfl, by simp, hlt, h5, fun u hu => ?_⟩
          rw [HTM.out, List.mem_append, List.mem_singleton] at hu
          rcases hu with hu | rfl
          · exact HA.out u hu
          · exact HOK.out
    · have hi : ¬ (m : Int) < (ts.length : Int) := by omega
      have HALL := Lib.hid (show ∀ t ∈ ts, (Lx.written t).2 = true by
        have h := HA.out
        rwa [List.take_of_length_le (by omega)] at h)
      have hwsz := HW.out.b.size
      obtain ⟨i0, hi0, hz0, hz1, hz2⟩ := info_parts infoU8
      go_wp2_with (at_make; refine wpList_make_own _ rfl _ _ 66 rfl w.heap.size 5 i0 (.int .u8 0) 1 Tryz.underlying66 hi0 hz0 hz1 .i64 .i64 _ 0 rfl rfl rfl (by rw [hz2]; omega) (by unfold maxLen; omega) hwsz ?_; intro W2 hown hgrow)
      have HO2 : Hid (OwnB W2 w.heap.size (.slice (some ⟨wr.heap.size, 0, none⟩) 0 0) []) := Lib.hid hown
      have HW2 := Lib.hid (HW.out.grown hgrow)
      clear hown hgrow hi0 hz0 hz1 hz2 hwsz
      go_loopg [7, 8] (ts.length) (fun n v u wq => ∃ (m : Nat) (l : List UInt8), n = ts.length - m ∧ u = .int .i64 (m : Int) ∧ m ≤ ts.length ∧ LW w wq ∧ OwnB wq w.heap.size v l ∧ l.length ≤ 65536 ∧ Lx.joinFrom m l (ts.drop m) = Lx.joinFrom 0 [] ts)
      case atStart => exact ⟨0, [], rfl, rfl, Nat.zero_le _, HW2.out, HO2.out, by simp, rfl⟩
      case round =>
        obtain ⟨j, l, hn, rfl, hj, hW, hO, hll, he⟩ := hrel
        have HN2 := Lib.hid hn
        have HWq := Lib.hid hW
        have HO := Lib.hid hO
        have HE := Lib.hid he
        obtain ⟨A0, cap0, hv⟩ := hO.slice
        clear hn hW hO he
        subst hv
        have j0 : (0 : Int) ≤ (j : Int) := by omega
        have ji : (j : Int) ≤ 1000000000 := by omega
        by_cases hlt2 : j < ts.length
        · have hi2 : (j : Int) < (ts.length : Int) := by omega
          obtain ⟨g, cur, fr, rfl, hgb, hcur⟩ := HV.out.at hlt2
          have HGB := Lib.hid hgb
          obtain ⟨t, ht⟩ : ∃ t, ts[j]'hlt2 = t := ⟨_, rfl⟩
          obtain ⟨ht1, ht2, ht3⟩ := hts t (by rw [← ht]; exact List.getElem_mem hlt2)
          have HOK := Lib.hid (HALL.out t (by rw [← ht]; exact List.getElem_mem hlt2))
          have hTM : ts.drop j = t :: ts.drop (j + 1) := by rw [List.drop_eq_getElem_cons hlt2, ht]
          have HTK : ∀ W, LW w W → W.cell? ⟨g, j * 4, none⟩ = some (.int .i64 t.pos) ∧ W.cell? ⟨g, j * 4 + 1, none⟩ = some (.int .i64 t.kind) ∧ W.cell? ⟨g, j * 4 + 2, none⟩ = some (.string ⟨t.s.toArray⟩) ∧ W.cell? ⟨g, j * 4 + 3, none⟩ = some (.int .i64 t.n) ∧ g < W.heap.size := by
            intro W hW
            have hgb' := (hW.b.block g (lt_of_block HGB.out)).trans HGB.out
            obtain ⟨t0, t1, t2, t3⟩ := toks_at hgb' hcur hlt2
            rw [ht] at t0 t1 t2 t3
            exact ⟨t0, t1, t2, t3, lt_of_block hgb'⟩
          have HJ := Lib.hid (show Lx.joinFrom (j + 1) ((if 0 < j then l ++ [32] else l) ++ (Lx.written t).1) (ts.drop (j + 1)) = Lx.joinFrom 0 [] ts by
            rw [← HE.out, hTM, Lx.join_step HOK.out hll])
          obtain ⟨h1, h2⟩ := Lx.one_written (t := t) ht3
          have h2' := h2 HOK.out
          have hxl := Lx.written_len t (by omega) ht3
          obtain ⟨x, hx⟩ : ∃ x, (Lx.written t).1 = x := ⟨_, rfl⟩
          rw [hx] at HJ hxl
          have hon : ∀ W, LW w W → Calls Tryz.prog 55 #[.agg #[.int .i64 t.pos, .int .i64 t.kind, .string ⟨t.s.toArray⟩, .int .i64 t.n]] W fun e W' => e = .returned (.tuple #[.string ⟨x.toArray⟩, .bool true]) ∧ LW w W' ∧ Below W.heap.size W W' := by
            intro W hW
            have := refOne hW.self t ht1 ht2 ht3
            rw [h2', hx, HOK.out] at this
            exact this.mono fun e W' h => ⟨h.1, hW.trans h.2, h.2.b⟩
          have HTK := Lib.hid HTK
          have HON := Lib.hid hon
          clear ht hgb hcur h1 h2 h2' hx hTM hon
          by_cases hj0 : 0 < j
          · have hji : (0 : Int) < (j : Int) := by omega
            rw [if_pos hj0] at HJ
            clear hj0
            go_upto_region 13 with (at_builtin; refine appByte w.heap.size rfl (.tmp 36) (.tmp 37) rfl _ l 32 rfl rfl HO.out HWq.out.b.size (by omega) ?_; intro v1 w1 hown hgr)
            have hW1 := LW.turn (HWq.out.alloc (.cells #[.int .u8 (UInt8.toNat 32 : Int)] 5)) hG hgr (fun g hg => OwnB.base HO.out g hg)
            obtain ⟨l1, hl1⟩ : ∃ l1, l ++ [32] = l1 := ⟨_, rfl⟩
            have hl1b : l1.length ≤ 65537 := by rw [← hl1]; simp; omega
            rw [hl1] at hown HJ
            obtain ⟨A1, cap1, hv1⟩ := hown.slice
            subst hv1
            have HO1 := Lib.hid hown
            have HW1 := Lib.hid hW1
            clear hown hW1 hgr hl1
            obtain ⟨t0, t1, t2, t3, hgl⟩ := HTK.out _ HW1.out
            have hon := HON.out _ HW1.out
            go_upto_region 14 with (go_at_call 55; refine hon.mono ?_; clear hon; rintro e W5 ⟨rfl, h5, hb5⟩)
            have ho5 := OwnB.below HO1.out hb5
            clear t0 t1 t2 t3 hgl
            obtain ⟨l2, hl2⟩ : ∃ l2, l1 ++ x = l2 := ⟨_, rfl⟩
            have hl2l : l2.length = l1.length + x.length := by rw [← hl2]; simp <;> omega
            have hbnd : (l1).length + x.length ≤ 140737488351232 := by rw [← List.length_append, hl2]; omega
            rw [hl2] at HJ
            go_upto_region 15 with (at_builtin; refine appStr w.heap.size rfl (.tmp 47) (.tmp 48) rfl _ (l1) x rfl rfl ho5 h5.b.size hbnd ?_; intro v2 w2 hown2 hgr2)
            have hW6 := LW.turn h5 hG hgr2 (fun g hg => OwnB.base ho5 g hg)
            rw [hl2] at hown2
            obtain ⟨A2, cap2, hv2⟩ := hown2.slice
            subst hv2
            have HO6 := Lib.hid hown2
            have HW6 := Lib.hid hW6
            clear hown2 hW6 hgr2 ho5 hl2 hl2l
            by_cases hbig : 65536 < l2.length
            · have hbi : (65536 : Int) < (l2.length : Int) := by omega
              have HR := Lib.hid (Lx.join_long HJ.out (fun u hu => HALL.out u (List.mem_of_mem_drop hu)) hbig)
              clear hbig
              go_wp2_with fail
              refine bodyPost_ret (results_tmp2 rfl _ _ _) rfl ?_
              rw [HR.out]
              exact ⟨rfl, HW6.out⟩
            · have hbi : ¬ (65536 : Int) < (l2.length : Int) := by omega
              have HBG := Lib.hid hbig
              clear hbig
              go_wp2_with fail
              go_roundg (ts.length - (j + 1))
              case measure => have := HN2.out; omega
              case rel => exact ⟨j + 1, l2, rfl, by simp, hlt2, HW6.out, HO6.out, by have := HBG.out; omega, HJ.out⟩
          · have hji : ¬ (0 : Int) < (j : Int) := by omega
            rw [if_neg hj0] at HJ
            clear hj0
            obtain ⟨t0, t1, t2, t3, hgl⟩ := HTK.out _ HWq.out
            have hon := HON.out _ HWq.out
            go_upto_region 14 with (go_at_call 55; refine hon.mono ?_; clear hon; rintro e W5 ⟨rfl, h5, hb5⟩)
            have ho5 := OwnB.below HO.out hb5
            clear t0 t1 t2 t3 hgl
            obtain ⟨l2, hl2⟩ : ∃ l2, l ++ x = l2 := ⟨_, rfl⟩
            have hl2l : l2.length = l.length + x.length := by rw [← hl2]; simp <;> omega
            have hbnd : (l).length + x.length ≤ 140737488351232 := by rw [← List.length_append, hl2]; omega
            rw [hl2] at HJ
            go_upto_region 15 with (at_builtin; refine appStr w.heap.size rfl (.tmp 47) (.tmp 48) rfl _ (l) x rfl rfl ho5 h5.b.size hbnd ?_; intro v2 w2 hown2 hgr2)
            have hW6 := LW.turn h5 hG hgr2 (fun g hg => OwnB.base ho5 g hg)
            rw [hl2] at hown2
            obtain ⟨A2, cap2, hv2⟩ := hown2.slice
            subst hv2
            have HO6 := Lib.hid hown2
            have HW6 := Lib.hid hW6
            clear hown2 hW6 hgr2 ho5 hl2 hl2l
            by_cases hbig : 65536 < l2.length
            · have hbi : (65536 : Int) < (l2.length : Int) := by omega
              have HR := Lib.hid (Lx.join_long HJ.out (fun u hu => HALL.out u (List.mem_of_mem_drop hu)) hbig)
              clear hbig
              go_wp2_with fail
              refine bodyPost_ret (results_tmp2 rfl _ _ _) rfl ?_
              rw [HR.out]
              exact ⟨rfl, HW6.out⟩
            · have hbi : ¬ (65536 : Int) < (l2.length : Int) := by omega
              have HBG := Lib.hid hbig
              clear hbig
              go_wp2_with fail
              go_roundg (ts.length - (j + 1))
              case measure => have := HN2.out; omega
              case rel => exact ⟨j + 1, l2, rfl, by simp, hlt2, HW6.out, HO6.out, by have := HBG.out; omega, HJ.out⟩
        · have hi2 : ¬ (j : Int) < (ts.length : Int) := by omega
          have HR := Lib.hid (show Lx.join ts = if 4096 < ts.length then ([], 3) else (l, 0) from Lx.join_end (m := j) (by rw [← HE.out, List.drop_eq_nil_of_le (by omega)]) hll)
          by_cases hmany : 4096 < ts.length
          · have hmi : (4096 : Int) < (ts.length : Int) := by omega
            rw [if_pos hmany] at HR
            clear hmany
            go_wp2_with fail
            refine bodyPost_ret (results_tmp2 rfl _ _ _) rfl ?_
            rw [HR.out]
            exact ⟨rfl, HWq.out⟩
          · have hmi : ¬ (4096 : Int) < (ts.length : Int) := by omega
            rw [if_neg hmany] at HR
            clear hmany
            have hcv : (convert 66 9 (.slice A0 l.length cap0)).run Tryz.prog wr = .ok (.string ⟨l.toArray⟩) wr := strByte HO.out
            go_wp2_with fail
            refine bodyPost_ret (results_tmp2 rfl _ _ _) rfl ?_
            rw [HR.out]
            exact ⟨rfl, HWq.out⟩

end Go.Proofs.YtbhdkkkaeabkhaaGreatDoor

namespace Go.Proofs.YtbhdkkkaeabkhaaGreatDoor
open Go.RowKit
set_option linter.unusedSimpArgs false
set_option linter.unusedVariables false

/-- A row with its room marked, up to a place. -/
def markedT (ts : List Lx.Tok) (t : Lx.Tok) (j : Nat) : List Lx.Tok := ts ++ (List.replicate j t ++ List.replicate (80 - j) zeroT)
theorem markedT_len (ts : List Lx.Tok) (t : Lx.Tok) (j : Nat) (hj : j ≤ 80) : (markedT ts t j).length = ts.length + 80 := by
  unfold markedT
  rw [List.length_append, List.length_append, List.length_replicate, List.length_replicate]
  omega
theorem markedT_start (ts : List Lx.Tok) (t : Lx.Tok) : ts ++ (List.replicate (ts.length + 80) zeroT).drop ts.length = markedT ts t 0 := by
  unfold markedT
  rw [List.drop_replicate, show ts.length + 80 - ts.length = 80 - 0 by omega]
  rfl
theorem markedT_step (ts : List Lx.Tok) (t : Lx.Tok) (j : Nat) (hj : j < 80) : (markedT ts t j).set (ts.length + j) t = markedT ts t (j + 1) := by
  unfold markedT
  rw [List.set_append_right _ _ (by omega), show ts.length + j - ts.length = j by omega, List.set_append_right _ _ (by rw [List.length_replicate]; exact Nat.le_refl _), List.length_replicate, Nat.sub_self]
  obtain ⟨k, hk⟩ : ∃ k, 80 - j = k + 1 := ⟨80 - j - 1, by omega⟩
  rw [hk, List.replicate_succ, List.set_cons_zero, show 80 - (j + 1) = k by omega, List.replicate_succ' (n := j), List.append_assoc]
  rfl
theorem markedT_end (ts : List Lx.Tok) (t : Lx.Tok) : markedT ts t 80 = ts ++ List.replicate 80 t := by
  unfold markedT
  simp
theorem markedT_take (ts : List Lx.Tok) (t : Lx.Tok) (j : Nat) : (markedT ts t j).take ts.length = ts := by
  unfold markedT
  exact List.take_left
theorem Below.set4 {w W : World} {g a b c d : Nat} {x y z u : Value} (h : Below w.heap.size w W) (hg : w.heap.size ≤ g) : Below w.heap.size w ((((W.setCell ⟨g, a, none⟩ x).setCell ⟨g, b, none⟩ y).setCell ⟨g, c, none⟩ z).setCell ⟨g, d, none⟩ u) :=
  BSet (BSet (BSet (BSet h hg) hg) hg) hg

theorem heap_set4 {W : World} {k g a b c d : Nat} {x y z u : Value} (h : k ≠ g) : ((((W.setCell ⟨g, a, none⟩ x).setCell ⟨g, b, none⟩ y).setCell ⟨g, c, none⟩ z).setCell ⟨g, d, none⟩ u).heap[k]? = W.heap[k]? := by
  simp [World.setCell, Array.getElem?_modify, Ne.symm h]
theorem RowW.of_own {w : World} {base g n : Nat} {us : List Lx.Tok} (h : w.ownsRow base 26 4 (.slice (some ⟨g, 0, none⟩) n n) n (us.flatMap cellsT)) : RowW w g us ∧ base ≤ g := by
  rcases h.2 with ⟨h, _⟩ | ⟨g', cap, cur, h, hb, hg, hn, hm, hcs, ht⟩
  · cases h
  · injection h with h1 h2 h3
    injection h1 with h1
    injection h1 with h1
    subst h1 h3
    refine ⟨?_, hb⟩
    rw [List.take_of_length_le (by rw [Array.length_toList]; omega)] at ht
    unfold RowW
    rw [hg, ← ht]

set_option maxRecDepth 100000 in
set_option maxHeartbeats 4000000 in
theorem bookRoomy (ts : List Lx.Tok) (v : Value) (t : Lx.Tok) (w : World) (hv : ToksIn w v ts) (hl : ts.length ≤ 1000000) :
    Calls Tryz.prog 32 #[v, .agg #[.int .i64 t.pos, .int .i64 t.kind, .string ⟨t.s.toArray⟩, .int .i64 t.n]] w fun e w' =>
      ∃ g, e = .returned (.slice (some ⟨g, 0, none⟩) (ts.length + 80) (ts.length + 80)) ∧ w.heap.size ≤ g ∧ RowW w' g (ts ++ List.replicate 80 t) ∧ Below w.heap.size w w' := by
  obtain ⟨a0, cp, rfl⟩ := hv.slice
  have HV := Lib.hid hv
  clear hv
  have hli : (ts.length : Int) ≤ 1000000 := by omega
  go_enter Tryz.func32, Tryz.ntmps32
  have hB := heap_alloc_new w (.cells #[.int .i64 t.pos, .int .i64 t.kind, .string ⟨t.s.toArray⟩, .int .i64 t.n] 26)
  have hbB := grown_below (World.grownBy_alloc w (.cells #[.int .i64 t.pos, .int .i64 t.kind, .string ⟨t.s.toArray⟩, .int .i64 t.n] 26) none)
  obtain ⟨i0, hi', hz0, hz1, hz2⟩ := info_parts infoTok
  go_upto_region 2 with (at_make; refine wpList_make_full _ rfl _ _ 28 rfl w.heap.size 26 i0 _ 4 Tryz.underlying28 hi' hz0 hz1 .i64 .i64 _ _ (ts.length + 80) rfl rfl (by simp) (by simp) (by rw [hz2]; omega) (by unfold maxLen; omega) (by simp) ?_; intro W2 hown hgrow)
  rw [made_toks] at hown
  obtain ⟨hR2, hbR⟩ := RowW.of_own hown
  rw [World.size_alloc] at hR2
  have hB2 := (hgrow.block w.heap.size (by simp) (fun e => nomatch e)).trans hB
  have hb2 := hbB.trans ((grown_below hgrow).mono (by simp))
  have hv2 := HV.out.below hb2
  clear hB hbB hown hgrow hi' hz0 hz1 hz2 hbR
  obtain ⟨G, hG⟩ : ∃ G, w.heap.size + 1 = G := ⟨_, rfl⟩
  rw [hG] at hR2 ⊢
  have hGG : w.heap.size < G := by omega
  clear hG
  go_upto_region 3 with (refine wpList_copy_toks (o := ⟨some 13, _, _, _, _, _⟩) rfl (.tmp 11) (.tmp 12) rfl G (List.replicate (ts.length + 80) zeroT) ts _ (ts.length + 80) (ts.length + 80) rfl rfl hv2 hR2 (by simp) (by simp) ?_; intro W3 hR3 hgr3)
  rw [markedT_start ts t] at hR3
  have HR3 := Lib.hid hR3
  have HB3 := Lib.hid ((hgr3.block w.heap.size (lt_of_block hB2) (fun e => by injection e with e; omega)).trans hB2)
  have HW3 := Lib.hid (Below.turn hb2 hgr3 (fun r e => by injection e with e; omega))
  clear hR3 hgr3 hR2 hB2 hb2 hv2
  go_wp2_with fail
  go_loopg [6] 80 (fun n v wr => ∃ (j k : Nat), n = 80 - j ∧ v = .int .i64 (k : Int) ∧ k = ts.length + j ∧ j ≤ 80 ∧ RowW wr G (markedT ts t j) ∧ Below w.heap.size w wr ∧
    wr.heap[w.heap.size]? = some (.cells #[.int .i64 t.pos, .int .i64 t.kind, .string ⟨t.s.toArray⟩, .int .i64 t.n] 26 (0, 0)))
  case atStart => exact ⟨0, ts.length, rfl, rfl, rfl, Nat.zero_le _, HR3.out, HW3.out, HB3.out⟩
  case round =>
    obtain ⟨j, k, hn, rfl, hk, hj, hR, hb, hB⟩ := hrel
    have HN := Lib.hid hn
    have HK := Lib.hid hk
    have HR := Lib.hid hR
    have HW := Lib.hid hb
    have HB := Lib.hid hB
    have k0 : (0 : Int) ≤ (k : Int) := by omega
    have ki : (k : Int) ≤ 1000080 := by omega
    have hkl : k ≤ ts.length + 80 := by omega
    by_cases hlt : j < 80
    · have hi : (k : Int) < (ts.length : Int) + 80 := by omega
      have hkm : k < (markedT ts t j).length := by rw [markedT_len _ _ _ hj]; omega
      obtain ⟨t0, t1, t2, t3⟩ := hR.at hkm
      obtain ⟨z, hz⟩ : ∃ z, (markedT ts t j)[k]'hkm = z := ⟨_, rfl⟩
      rw [hz] at t0 t1 t2 t3
      obtain ⟨f0, f1, f2, f3⟩ := hR.free (m := k)
      obtain ⟨b0, b1, b2, b3⟩ := four_cells hB
      have hgl := hR.lt
      have hbl := lt_of_block hB
      have HS := Lib.hid (show (markedT ts t j).set k t = markedT ts t (j + 1) by rw [hk]; exact markedT_step ts t j hlt)
      have HKM := Lib.hid hkm
      clear hz hn hk hR hb hB hkm
      go_wp2_with fail
      go_roundg (80 - (j + 1))
      case measure => have := HN.out; omega
      case rel =>
        refine ⟨j + 1, k + 1, rfl, by simp, by have := HK.out; omega, hlt, ?_, Below.set4 HW.out (by omega), ?_⟩
        · have h := HR.out.set HKM.out t
          rw [HS.out] at h
          exact h
        · exact (heap_set4 (by omega)).trans HB.out
    · have hi : ¬ (k : Int) < (ts.length : Int) + 80 := by omega
      have HE := Lib.hid (show markedT ts t j = ts ++ List.replicate 80 t by rw [show j = 80 by omega]; exact markedT_end ts t)
      clear hn hk hR hb hB
      go_wp2_with fail
      go_ret
      have h := HR.out
      rw [HE.out] at h
      exact ⟨G, rfl, by omega, h, HW.out⟩

attribute [local go_sem high] tokNe
set_option maxRecDepth 100000 in
set_option maxHeartbeats 4000000 in
theorem bookIntact (ts : List Lx.Tok) (v : Value) (t : Lx.Tok) (g : Nat) (w : World) (hv : ToksIn w v ts) (hR : RowW w g (ts ++ List.replicate 80 t)) (hl : ts.length ≤ 1000000) :
    Calls Tryz.prog 34 #[.slice (some ⟨g, 0, none⟩) (ts.length + 80) (ts.length + 80), v, .agg #[.int .i64 t.pos, .int .i64 t.kind, .string ⟨t.s.toArray⟩, .int .i64 t.n]] w fun e w' =>
      e = .returned (.bool true) ∧ Below w.heap.size w w' := by
  obtain ⟨a0, cp, rfl⟩ := hv.slice
  have HV := Lib.hid hv
  have HR := Lib.hid hR
  clear hv hR
  have hli : (ts.length : Int) ≤ 1000000 := by omega
  go_enter Tryz.func34, Tryz.ntmps34
  have hB := heap_alloc_new w (.cells #[.int .i64 t.pos, .int .i64 t.kind, .string ⟨t.s.toArray⟩, .int .i64 t.n] 26)
  have hbB := grown_below (World.grownBy_alloc w (.cells #[.int .i64 t.pos, .int .i64 t.kind, .string ⟨t.s.toArray⟩, .int .i64 t.n] 26) none)
  obtain ⟨W1, hW1⟩ : ∃ W1, w.alloc (.cells #[.int .i64 t.pos, .int .i64 t.kind, .string ⟨t.s.toArray⟩, .int .i64 t.n] 26) = W1 := ⟨_, rfl⟩
  rw [hW1] at hB hbB
  have hv1 := HV.out.below hbB
  have hR1 := HR.out.below hbB
  have hf1 : ToksIn W1 (.slice (some ⟨g, 0, none⟩) ts.length (ts.length + 80)) ts := hR1.toks List.take_left
  have hsm := lawSameTok ts ts _ _ W1 hf1 hv1 (by omega) (by omega)
  rw [decide_eq_true rfl] at hsm
  have HB1 := Lib.hid hB
  have HW1 := Lib.hid hbB
  have HR1 := Lib.hid hR1
  have hg1 := hR1.lt
  have hl1 := lt_of_block hB
  clear hB hbB hv1 hR1 hf1
  go_upto_region 1 with fail
  clear hW1
  go_upto_region 3 with (go_at_call 25; refine hsm.mono ?_; clear hsm; rintro e W2 ⟨rfl, hb2⟩)
  have HB2 := Lib.hid ((hb2.block _ hl1).trans HB1.out)
  have HW2 := Lib.hid (Below.chain HW1.out hb2)
  have HR2 := Lib.hid (HR1.out.below hb2)
  clear hb2
  go_wp2_with fail
  go_loopg [7] 80 (fun n v wr => ∃ (j k : Nat), n = 80 - j ∧ v = .int .i64 (k : Int) ∧ k = ts.length + j ∧ j ≤ 80 ∧ wr.heap = W2.heap ∧ Below w.heap.size w wr)
  case atStart => exact ⟨0, ts.length, rfl, rfl, rfl, Nat.zero_le _, rfl, HW2.out⟩
  case round =>
    obtain ⟨j, k, hn, rfl, hk, hj, hh, hb⟩ := hrel
    have HN := Lib.hid hn
    have HK := Lib.hid hk
    have HH := Lib.hid hh
    have HW := Lib.hid hb
    have hR : RowW wr g (ts ++ List.replicate 80 t) := by unfold RowW; rw [hh]; exact HR2.out
    have hB : wr.heap[w.heap.size]? = some (.cells #[.int .i64 t.pos, .int .i64 t.kind, .string ⟨t.s.toArray⟩, .int .i64 t.n] 26 (0, 0)) := by rw [hh]; exact HB2.out
    have k0 : (0 : Int) ≤ (k : Int) := by omega
    have ki : (k : Int) ≤ 1000080 := by omega
    by_cases hlt : j < 80
    · have hi : (k : Int) < (ts.length : Int) + 80 := by omega
      have hkm : k < (ts ++ List.replicate 80 t).length := by rw [List.length_append, List.length_replicate]; omega
      obtain ⟨t0, t1, t2, t3⟩ := hR.at hkm
      have hz : (ts ++ List.replicate 80 t)[k]'hkm = t := by rw [List.getElem_append_right (by omega), List.getElem_replicate]
      rw [hz] at t0 t1 t2 t3
      obtain ⟨b0, b1, b2, b3⟩ := four_cells hB
      have hgl := hR.lt
      have hbl := lt_of_block hB
      have hbq := tokDiff_eq t t
      rw [show (!(t == t)) = false by simp] at hbq
      clear hz hn hk hR hb hB hkm hh
      go_wp2_with fail
      go_quiet (fail)
      go_wp2_with fail
      go_roundg (80 - (j + 1))
      case measure => have := HN.out; omega
      case rel => exact ⟨j + 1, k + 1, rfl, by simp, by have := HK.out; omega, hlt, HH.out, Below.drewN HW.out _⟩
    · have hi : ¬ (k : Int) < (ts.length : Int) + 80 := by omega
      clear hn hk hR hb hB hh
      go_wp2_with fail
      go_ret
      exact ⟨rfl, HW.out⟩

end Go.Proofs.YtbhdkkkaeabkhaaGreatDoor

namespace Go.Proofs.YtbhdkkkaeabkhaaGreatDoor.Lx
open Go
set_option linter.unusedSimpArgs false

theorem quoteIn_ge : ∀ (u : Bytes), u.length ≤ (quoteIn u).length
  | [] => by simp [quoteIn]
  | c :: u => by
    have := quoteIn_ge u
    rw [quoteIn_cons', List.length_append, List.length_cons]
    split
    · simp; omega
    · split <;> simp <;> omega
theorem form_bound {s : Bytes} {t : Tok} (h : Form s t) : t.s.length ≤ s.length ∧ 0 ≤ t.n ∧ t.n ≤ 9223372036854775807 := by
  cases h with
  | name => exact ⟨Nat.le_refl _, by simp, by simp⟩
  | number c s hs hv hz => exact ⟨Nat.zero_le _, by simp, by show ((value (c :: s) : Nat) : Int) ≤ _; omega⟩
  | text u hu =>
    refine ⟨?_, by simp, by simp⟩
    have := quoteIn_ge u
    simp [quote]
    omega
  | two => exact ⟨Nat.le_refl _, by decide, by decide⟩
  | sign => exact ⟨Nat.le_refl _, by simp, by simp⟩

/-- Each token's own text stands at its place; blanks and remarks alone between. -/
def Laid (l : Bytes) : Nat → List Tok → Prop
  | e, [] => e ≤ l.length ∧ toks (l.drop e) = ([], none)
  | e, t :: ts => ∃ q : Nat, t.pos = q ∧ e ≤ q ∧ q + (written t).1.length ≤ l.length ∧ (written t).2 = true ∧ (l.drop q).take (written t).1.length = (written t).1 ∧
      toks ((l.drop e).take (q - e)) = ([], none) ∧ (t.s.length ≤ l.length ∧ 0 ≤ t.n ∧ t.n ≤ 9223372036854775807) ∧ Laid l (q + (written t).1.length) ts
theorem toks_blank {l : Bytes} (h : skip false l = []) (hl : l.length ≤ 65536) : toks l = ([], none) := by
  unfold toks
  rw [if_neg (by omega), go_nil h]
theorem bare_back {t : Tok} (h : t.pos = 0) (q : Int) : Tok.bare { t with pos := q } = t := by
  cases t
  simp only at h
  subst h
  rfl
theorem go_laid (l : Bytes) (hl : l.length ≤ 65536) : ∀ (f p i : Nat) (ts : List Tok), p ≤ l.length → go f p i (l.drop p) = (ts, none) → l.length - p < f → Laid l p ts
  | 0, p, i, ts, _, _, h => by omega
  | f + 1, p, i, ts, hp, h, hf => by
    rcases go_inv h with ⟨hs, rfl⟩ | ⟨s, x, t, ts', hs, hF, ha, hi, rfl, hg⟩
    · exact ⟨hp, toks_blank hs (by rw [List.length_drop]; omega)⟩
    · have hle := skip_le false (l.drop p)
      have hpc := skip_piece false (l.drop p)
      obtain ⟨j, hj, e⟩ := skip_suffix false (l.drop p)
      have hjl : (skip false (l.drop p)).length = (l.drop p).length - j := by rw [e, List.length_drop]
      rw [List.drop_drop] at e
      rw [hs] at hle hpc hjl e
      obtain ⟨q, hq⟩ : ∃ q, p + ((l.drop p).length - (s ++ x).length) = q := ⟨_, rfl⟩
      have hqj : q = p + j := by omega
      rw [hq] at hg ⊢
      have hdq : l.drop q = s ++ x := by rw [e, hqj]
      have hqp : (l.drop p).length - (s ++ x).length = q - p := by omega
      rw [hqp] at hpc
      have hlen : (l.drop q).length = s.length + x.length := by rw [hdq, List.length_append]
      rw [List.length_drop] at hlen
      have hsl := form_len hF
      have hw := written_of_form (t := { t with pos := (q : Int) }) (s := s) (by rw [bare_back (form_pos hF)]; exact hF)
      have hb := form_bound hF
      have hx : l.drop (q + s.length) = x := by rw [← List.drop_drop, hdq, List.drop_left]
      refine ⟨q, rfl, by omega, ?_, by rw [hw], ?_, toks_blank hpc (by rw [List.length_take, List.length_drop]; omega), ⟨by have := hb.1; show t.s.length ≤ _; omega, hb.2⟩, ?_⟩
      · rw [hw]
        show q + s.length ≤ l.length
        omega
      · rw [hw, hdq]
        exact List.take_left
      · rw [hw]
        exact go_laid l hl f (q + s.length) (i + 1) ts' (by omega) (by rw [hx]; exact hg) (by omega)
theorem toks_laid {l : Bytes} {ts : List Tok} (h : toks l = (ts, none)) : Laid l 0 ts ∧ l.length ≤ 65536 := by
  unfold toks at h
  split at h
  · injection h with h1 h2; cases h2
  · rename_i hl
    exact ⟨go_laid l (by omega) _ 0 0 ts (Nat.zero_le _) h (by omega), by omega⟩

end Go.Proofs.YtbhdkkkaeabkhaaGreatDoor.Lx

namespace Go.Proofs.YtbhdkkkaeabkhaaGreatDoor
open Go.RowKit Go.Shelf
set_option linter.unusedSimpArgs false
set_option linter.unusedVariables false

theorem lwBare {w W : World} (h : LW w W) {ts : List Lx.Tok} {v : Value} (hv : ToksIn W v ts) (hl : ts.length ≤ 1000000) :
    Calls Tryz.prog 35 #[v] W fun e W' => ∃ u, e = .returned u ∧ LW w W' ∧ LW W W' ∧ ToksIn W' u (ts.map Lx.Tok.bare) :=
  (lawBare ts v W hv hl).mono fun e W' ⟨u, h1, h2, h3⟩ => ⟨u, h1, h.go h3, h.self.go h3, h2⟩
theorem lwShort {w W : World} (h : LW w W) {ts : List Lx.Tok} {v : Value} (hv : ToksArg W v ts) :
    Calls Tryz.prog 31 #[v, .int .i64 300] W fun e W' => ∃ u, e = .returned u ∧ LW w W' ∧ ToksIn W' u ((ts.take 300).map cutS) :=
  (lawShort ts v W hv).mono fun e W' ⟨u, h1, h2, h3⟩ => ⟨u, h1, h.go h3, h2⟩

/-- The second half: any text. -/
theorem toks_bounds {src : Lx.Bytes} {ts : List Lx.Tok} (h : Lx.toks src = (ts, none)) : ∀ t ∈ ts, t.s.length ≤ 1000000000 ∧ -9223372036854775808 ≤ t.n ∧ t.n ≤ 9223372036854775807 := by
  unfold Lx.toks at h
  split at h
  · injection h with h1 h2; cases h2
  · intro t ht
    obtain ⟨_, hp⟩ := Lx.go_parts _ _ _ _ _ h (by omega)
    obtain ⟨hF, hw, hl, _⟩ := hp t ht
    have hb := Lx.form_bound hF
    have e1 : t.bare.s = t.s := rfl
    have e2 : t.bare.n = t.n := rfl
    rw [e1, e2] at hb
    exact ⟨by omega, by omega, hb.2.2⟩

set_option maxRecDepth 100000 in
set_option maxHeartbeats 8000000 in
theorem lawBack (ts0 : List Lx.Tok) (v0 : Value) (s : ByteArray) (w : World) (hv0 : ToksArg w v0 ts0) (hG : GL w) (hN : NG ≤ w.heap.size) : Calls Tryz.prog 6 #[v0, .string s] w fun e w' => e = .returned (.bool true) ∧ LW w w' := by
  have H0 := LW.refl hG hN
  obtain ⟨a0, c0, rfl⟩ : ∃ a c, v0 = .slice a ts0.length c := by obtain ⟨a, c, h, _⟩ := hv0; exact ⟨a, c, h⟩
  have hsh := lwShort H0 hv0
  have hbnd : ∀ t ∈ (ts0.take 300).map cutS, t.s.length ≤ 200 ∧ -9223372036854775808 ≤ t.n ∧ t.n ≤ 9223372036854775807 := by
    intro t ht
    obtain ⟨u, hu, rfl⟩ := List.mem_map.1 ht
    obtain ⟨m, hm, e⟩ := List.getElem_of_mem (List.mem_of_mem_take hu)
    obtain ⟨a, c, _, hat⟩ := hv0
    obtain ⟨b, off, _, h⟩ := hat m hm
    obtain ⟨_, _, _, _, h4, h5⟩ := h
    rw [e] at h4 h5
    exact ⟨by show (u.s.take 200).length ≤ 200; rw [List.length_take]; omega, h4, h5⟩
  obtain ⟨ts, hts⟩ : ∃ ts, (ts0.take 300).map cutS = ts := ⟨_, rfl⟩
  have htl : ts.length ≤ 300 := by rw [← hts, List.length_map, List.length_take]; omega
  rw [hts] at hsh hbnd
  have HB := Lib.hid hbnd
  clear hG hN hv0 hts hbnd
  go_enter Tryz.func6, Tryz.ntmps6
  go_upto_region 3 with (first
    | (go_at_call 31; refine hsh.mono ?_; clear hsh; rintro e W1 ⟨u, rfl, H1, hu⟩)
    | (go_at_call 22; refine (lwFew H1.self s 6000 (by omega)).mono ?_; rintro e W2 ⟨B, rfl, hB, hBs, H2⟩; have hu2 := hu.below H2.b; have H02 := H1.trans H2))
  have hjn := lwJoin H02.self hu2 (by omega) (fun t ht => ⟨by have := (HB.out t ht).1; omega, (HB.out t ht).2⟩)
  obtain ⟨⟨b, y⟩, hJ⟩ : ∃ r, Lx.join ts = r := ⟨_, rfl⟩
  rw [hJ] at hjn
  simp only at hjn
  clear hB hu
  obtain ⟨a1, c1, rfl⟩ := hu2.slice
  have hbl : b.length ≤ 140737488351232 := by
    have h := hJ
    unfold Lx.join at h
    split at h
    · injection h with h1 h2; rw [← h1]; simp
    · split at h
      · injection h with h1 h2; rw [← h1]; simp
      · split at h
        · injection h with h1 h2; rw [← h1]; simp
        · injection h with h1 h2; rw [← h1]; omega
  have HU := Lib.hid hu2
  have HJ := Lib.hid hJ
  clear hu2 hJ
  go_upto_if 23 with (go_at_call 18; refine hjn.mono ?_; clear hjn; rintro e W3 ⟨rfl, H3⟩)
  go_cut [] (fun wx => LW w wx)
  case first =>
    by_cases hy : y = 0
    · subst hy
      obtain ⟨hb1, hb2⟩ := Lx.join_back HJ.out
      obtain ⟨⟨xs, o⟩, hT⟩ : ∃ r, Lx.toks b = r := ⟨_, rfl⟩
      rw [hT] at hb1 hb2
      simp only at hb1 hb2
      subst hb2
      have hxl : xs.length ≤ 65537 := by have := toks_length b; rw [hT] at this; exact this
      have htk := lwTokensOk H3.self ⟨b.toArray⟩ hbl hT
      have HB1 := Lib.hid hb1
      clear hT hb1 hbl
      go_wp2_with (first
        | (go_at_call 16; refine htk.mono ?_; clear htk; rintro e W4 ⟨x, rfl, H4, hx⟩)
        | (go_at_call 35; refine (lwBare H5 (HU.out.below (H3.trans (H4.trans H5)).b) (by omega)).mono ?_; rintro e W6 ⟨u2, rfl, -, H6, hu2⟩)
        | (go_at_call 35; refine (lwBare H4.self hx (by omega)).mono ?_; rintro e W5 ⟨u1, rfl, H5, -, hu1⟩)
        | (go_at_call 25; refine (lwSame H6.self (hu1.below H6.b) hu2 (by rw [List.length_map]; omega) (by rw [List.length_map]; omega)).mono ?_; rw [HB1.out, decide_eq_true rfl]; rintro e W7 ⟨rfl, H7⟩))
      go_meet
      exact H02.trans (H3.trans (H4.trans (H5.trans (H6.trans H7))))
    · have hyi : ¬ (y : Int) = 0 := by omega
      go_wp2
      go_meet
      exact H02.trans H3
  case rest =>
    rename_i wc hcut
    clear hbl H3
    obtain ⟨⟨xs, o⟩, hT⟩ : ∃ r, Lx.toks B.data.toList = r := ⟨_, rfl⟩
    cases o with
    | some yx =>
      obtain ⟨y', x'⟩ := yx
      have hk := lwTokensBad hcut B (by omega) hT
      clear hT
      go_wp2_with (first
        | (go_at_call 16; refine hk.mono ?_; clear hk; rintro e W4 ⟨g, rfl, H4, -⟩)
        | (go_at_call 3; refine (lwRuns H4).mono ?_; rintro e W5 ⟨rfl, H5⟩))
      go_ret
      exact ⟨rfl, H5⟩
    | none =>
      have hk := lwTokensOk hcut B (by omega) hT
      have hxl : xs.length ≤ 65537 := by have := toks_length B.data.toList; rw [hT] at this; exact this
      have hxb := toks_bounds hT
      have hz := Lx.toks_join hT
      obtain ⟨⟨t, z⟩, hJ2⟩ : ∃ r, Lx.join xs = r := ⟨_, rfl⟩
      rw [hJ2] at hz
      simp only at hz
      have HX := Lib.hid hxb
      have HJ2 := Lib.hid hJ2
      clear hT hxb hJ2
      rcases hz with rfl | rfl
      · obtain ⟨hb1, hb2⟩ := Lx.join_back HJ2.out
        obtain ⟨⟨ys, o⟩, hT2⟩ : ∃ r, Lx.toks t = r := ⟨_, rfl⟩
        rw [hT2] at hb1 hb2
        simp only at hb1 hb2
        subst hb2
        have hyl : ys.length ≤ 65537 := by have := toks_length t; rw [hT2] at this; exact this
        have htl2 : t.length ≤ 140737488351232 := by
          have h := hT2
          unfold Lx.toks at h
          split at h
          · injection h with h1 h2; cases h2
          · omega
        have HT2 := Lib.hid hT2
        have HB1 := Lib.hid hb1
        clear hT2 hb1
        go_wp2_with (first
          | (go_at_call 16; refine hk.mono ?_; clear hk; rintro e W4 ⟨x, rfl, H4, hx⟩)
          | (go_at_call 18; refine (lwJoin H4.self hx (by omega) HX.out).mono ?_; rw [HJ2.out]; rintro e W5 ⟨rfl, H5⟩)
          | (go_at_call 16; refine (lwTokensOk H5.self ⟨t.toArray⟩ htl2 HT2.out).mono ?_; rintro e W6 ⟨yv, rfl, H6, hyv⟩)
          | (go_at_call 35; refine (lwBare H7 (hyv.below H7.b) (by omega)).mono ?_; rintro e W8 ⟨u2, rfl, -, H8, hu2⟩)
          | (go_at_call 35; refine (lwBare H6.self (hx.below (H5.trans H6).b) (by omega)).mono ?_; rintro e W7 ⟨u1, rfl, H7, -, hu1⟩)
          | (go_at_call 25; refine (lwSame H8.self (hu1.below H8.b) hu2 (by rw [List.length_map]; omega) (by rw [List.length_map]; omega)).mono ?_; rw [HB1.out, decide_eq_true rfl]; rintro e W9 ⟨rfl, H9⟩; have H10 := H4.trans (H5.trans (H6.trans (H7.trans (H8.trans H9)))))
          | (go_at_call 3; refine (lwRuns H10).mono ?_; rintro e W11 ⟨rfl, H11⟩))
        go_ret
        exact ⟨rfl, H11⟩
      · have ht0 : t = [] := by
          have h := HJ2.out
          unfold Lx.join at h
          split at h
          · injection h with h1 h2; exact h1.symm
          · split at h
            · injection h with h1 h2; exact h1.symm
            · split at h
              · injection h with h1 h2; cases h2
              · injection h with h1 h2; cases h2
        subst ht0
        have hT2 : Lx.toks (⟨(([] : List UInt8)).toArray⟩ : ByteArray).data.toList = ([], none) := by kernel_rfl
        go_wp2_with (first
          | (go_at_call 16; refine hk.mono ?_; clear hk; rintro e W4 ⟨x, rfl, H4, hx⟩)
          | (go_at_call 18; refine (lwJoin H4.self hx (by omega) HX.out).mono ?_; rw [HJ2.out]; rintro e W5 ⟨rfl, H5⟩)
          | (go_at_call 16; refine (lwTokensOk H5.self ⟨([] : List UInt8).toArray⟩ (by decide) hT2).mono ?_; rintro e W6 ⟨yv, rfl, H6, hyv⟩; have H10 := H4.trans (H5.trans H6))
          | (go_at_call 3; refine (lwRuns H10).mono ?_; rintro e W11 ⟨rfl, H11⟩))
        go_ret
        exact ⟨rfl, H11⟩

end Go.Proofs.YtbhdkkkaeabkhaaGreatDoor

namespace Go.Proofs.YtbhdkkkaeabkhaaGreatDoor
open Go.RowKit Go.Shelf
set_option linter.unusedSimpArgs false
set_option linter.unusedVariables false

/-- The mark behind the tokens. -/
def goneT : Lx.Tok := ⟨0, -77, [], 0⟩
set_option maxRecDepth 100000 in
set_option maxHeartbeats 8000000 in
theorem lawJoins (ts0 : List Lx.Tok) (v0 : Value) (w : World) (hv0 : ToksArg w v0 ts0) (hG : GL w) (hN : NG ≤ w.heap.size) : Calls Tryz.prog 5 #[v0] w fun e w' => e = .returned (.bool true) ∧ LW w w' := by
  have H0 := LW.refl hG hN
  obtain ⟨a0, c0, rfl⟩ : ∃ a c, v0 = .slice a ts0.length c := by obtain ⟨a, c, h, _⟩ := hv0; exact ⟨a, c, h⟩
  have hsh := lwShort H0 hv0
  have hbnd : ∀ t ∈ (ts0.take 300).map cutS, t.s.length ≤ 200 ∧ -9223372036854775808 ≤ t.n ∧ t.n ≤ 9223372036854775807 := by
    intro t ht
    obtain ⟨u, hu, rfl⟩ := List.mem_map.1 ht
    obtain ⟨m, hm, e⟩ := List.getElem_of_mem (List.mem_of_mem_take hu)
    obtain ⟨a, c, _, hat⟩ := hv0
    obtain ⟨b, off, _, h⟩ := hat m hm
    obtain ⟨_, _, _, _, h4, h5⟩ := h
    rw [e] at h4 h5
    exact ⟨by show (u.s.take 200).length ≤ 200; rw [List.length_take]; omega, h4, h5⟩
  obtain ⟨ts, hts⟩ : ∃ ts, (ts0.take 300).map cutS = ts := ⟨_, rfl⟩
  have htl : ts.length ≤ 300 := by rw [← hts, List.length_map, List.length_take]; omega
  have hti : (ts.length : Int) ≤ 300 := by omega
  rw [hts] at hsh hbnd
  have HBN := Lib.hid hbnd
  clear hG hN hv0 hts hbnd
  go_enter Tryz.func5, Tryz.ntmps5
  go_upto_region 3 with (go_at_call 31; refine hsh.mono ?_; clear hsh; rintro e W1 ⟨u, rfl, H1, hu⟩)
  obtain ⟨au, cu, hue⟩ := hu.slice
  subst hue
  have hB := heap_alloc_new W1 (.cells #[.int .i64 0, .int .i64 (-77), .string ⟨#[]⟩, .int .i64 0] 26)
  have hW := H1.alloc (.cells #[.int .i64 0, .int .i64 (-77), .string ⟨#[]⟩, .int .i64 0] 26)
  have hu2 := hu.below (grown_below (World.grownBy_alloc W1 (.cells #[.int .i64 0, .int .i64 (-77), .string ⟨#[]⟩, .int .i64 0] 26) none))
  obtain ⟨L, hL⟩ : ∃ L, W1.heap.size = L := ⟨_, rfl⟩
  obtain ⟨W2, hW2⟩ : ∃ W2, W1.alloc (.cells #[.int .i64 0, .int .i64 (-77), .string ⟨#[]⟩, .int .i64 0] 26) = W2 := ⟨_, rfl⟩
  rw [hL, hW2] at hB
  rw [hW2] at hW hu2
  rw [hL, hW2]
  obtain ⟨b0, b1, b2, b3⟩ := four_cells hB
  have hL2 := lt_of_block hB
  have hrm := bookRoomy ts _ goneT W2 hu2 (by omega)
  rw [show (#[.int .i64 goneT.pos, .int .i64 goneT.kind, .string ⟨goneT.s.toArray⟩, .int .i64 goneT.n] : Array Value) = #[.int .i64 0, .int .i64 (-77), .string ⟨#[]⟩, .int .i64 0] from rfl] at hrm
  have HB := Lib.hid hB
  have HU := Lib.hid hu2
  have HW := Lib.hid hW
  clear hu hB hW hu2 hL hW2 H1 H0
  go_upto_region 4 with (go_at_call 32; refine hrm.mono ?_; clear hrm; rintro e W3 ⟨G, rfl, hGl, hR3, hb3⟩)
  have hU3 := HU.out.below hb3
  have hW3 := HW.out.go hb3
  have HB3 := Lib.hid ((hb3.block L hL2).trans HB.out)
  have hjr := refJoinS ts _ W3 hW3.g hW3.n hU3 (by omega) (fun t ht => ⟨by have := (HBN.out t ht).1; omega, (HBN.out t ht).2⟩)
  obtain ⟨⟨b, y⟩, hJ⟩ : ∃ r, Lx.join ts = r := ⟨_, rfl⟩
  rw [hJ] at hjr
  simp only at hjr
  have HJ := Lib.hid hJ
  obtain ⟨S, hS⟩ : ∃ S : ByteArray, (⟨b.toArray⟩ : ByteArray) = S := ⟨_, rfl⟩
  rw [hS] at hjr
  have HU3 := Lib.hid hU3
  have HR3 := Lib.hid hR3
  have HW3 := Lib.hid hW3
  have HS := Lib.hid hS
  clear hU3 hR3 hW3 hJ hS b0 b1 b2 b3 hb3 hL2 HB HU
  go_upto_region 5 with (go_at_call 33; refine hjr.mono ?_; clear hjr; rintro e W4 ⟨rfl, H4⟩)
  have HW4 := Lib.hid (HW3.out.trans H4)
  have HU4 := Lib.hid (HU3.out.below H4.b)
  have HR4 := Lib.hid (HR3.out.below H4.b)
  have HB4 := Lib.hid ((H4.b.block L (lt_of_block HB3.out)).trans HB3.out)
  clear H4 HU3 HR3 HW3 HB3
  go_wp2_with fail
  go_loopg [7] 2 (fun n v wr => ∃ (i : Nat), n = 2 - i ∧ v = .int .i64 (i : Int) ∧ i ≤ 2 ∧ LW w wr ∧ Below W4.heap.size W4 wr)
  case atStart => exact ⟨0, rfl, rfl, Nat.zero_le _, HW4.out, Below.refl _ _⟩
  case round =>
    obtain ⟨i, hn, rfl, hi2, hW, hb⟩ := hrel
    have HN := Lib.hid hn
    have HW := Lib.hid hW
    have HBL := Lib.hid hb
    have i0 : (0 : Int) ≤ (i : Int) := by omega
    have hR5 := HR4.out.below hb
    have hU5 := HU4.out.below hb
    by_cases hlt : i < 2
    · have hi : (i : Int) < 2 := by omega
      have hfl : ToksIn wr (.slice (some ⟨G, 0, none⟩) ts.length (ts.length + 80)) ts := hR5.toks List.take_left
      have hjn := lwJoin HW.out.self hfl (by omega) (fun t ht => ⟨by have := (HBN.out t ht).1; omega, (HBN.out t ht).2⟩)
      rw [HJ.out] at hjn
      simp only at hjn
      rw [HS.out] at hjn
      clear hn hW hb hR5 hU5 hfl
      go_wp2_with (go_at_call 18; refine hjn.mono ?_; clear hjn; rintro e W5 ⟨rfl, H5⟩)
      go_roundg (2 - (i + 1))
      case measure => have := HN.out; omega
      case rel => exact ⟨i + 1, rfl, by simp, hlt, HW.out.trans H5, Below.chain HBL.out H5.b⟩
    · have hi : ¬ (i : Int) < 2 := by omega
      have hin := bookIntact ts _ goneT G wr hU5 hR5 (by omega)
      rw [show (#[.int .i64 goneT.pos, .int .i64 goneT.kind, .string ⟨goneT.s.toArray⟩, .int .i64 goneT.n] : Array Value) = #[.int .i64 0, .int .i64 (-77), .string ⟨#[]⟩, .int .i64 0] from rfl] at hin
      obtain ⟨b0, b1, b2, b3⟩ := four_cells ((hb.block L (lt_of_block HB4.out)).trans HB4.out)
      have hL5 := lt_of_block ((hb.block L (lt_of_block HB4.out)).trans HB4.out)
      clear hn hW hb hR5 hU5
      go_wp2_with (first
        | (go_at_call 34; refine hin.mono ?_; clear hin; rintro e W5 ⟨rfl, hb5⟩; have H5 := HW.out.go hb5)
        | (go_at_call 3; refine (lwRuns H5).mono ?_; rintro e W6 ⟨rfl, H6⟩))
      go_ret
      exact ⟨rfl, H6⟩

end Go.Proofs.YtbhdkkkaeabkhaaGreatDoor
