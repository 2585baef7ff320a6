/-
  coilref1.One.
-/
/-
 coilref1.One.
 The walks of coilref2.Small, Great.
 The walk of coilref2.Apart.
-/
import Derived.Test.YtdncljdfmdgdaaaGreatDoorM27
import Derived.Test.YtdncljdfmdgdaaaGreatDoorM14
namespace Go.Proofs.YtdncljdfmdgdaaaGreatDoor
open Go.RowKit
set_option linter.unusedSimpArgs false
set_option linter.unusedVariables false
theorem znjZ (l : Lx.Bytes) (m : Nat) (h : m < 14) : (sgs.take (m + 1)).contains l = ((sgs.take m).contains l || (sgs.getD m [] == l)) := by
 have hl : m < sgs.length := h
 rw [List.take_succ_eq_append_getElem hl, List.getD_eq_getElem?_getD, List.getElem?_eq_getElem hl, Bool.eq_iff_iff]
 simp only [List.contains_iff_mem, List.mem_append, List.mem_singleton, Bool.or_eq_true, beq_iff_eq, Option.getD_some]
 exact ⟨fun h => h.imp id Eq.symm, fun h => h.imp id Eq.symm⟩
set_option maxRecDepth 100000 in
set_option maxHeartbeats 4000000 in
theorem znkZ (w : World) (p k n : Int) (S : ByteArray) (hG : GL w) (hN : NG ≤ w.heap.size) (hs : S.size ≤ 1000000) (hn0 : -9223372036854775808 ≤ n) (hn1 : n ≤ 9223372036854775807) (hk : k = 6) :
  Calls Tryz.prog 122 #[.agg #[.int .i64 p, .int .i64 k, .string S, .int .i64 n]] w fun e w' => e = .returned (.tuple #[.string ⟨(Lx.oneR ⟨p, k, S.data.toList, n⟩).1.toArray⟩, .bool (Lx.oneR ⟨p, k, S.data.toList, n⟩).2]) ∧ LW w w' := by
 have hsi : (S.size : Int) ≤ 1000000 := by omega
 have H0 := LW.refl hG hN
 go_enter Tryz.func122, Tryz.ntmps122
 have hB := heap_alloc_new w (.cells #[.int .i64 p, .int .i64 k, .string S, .int .i64 n] 133)
 have hW := H0.alloc (.cells #[.int .i64 p, .int .i64 k, .string S, .int .i64 n] 133)
 obtain ⟨b0, b1, b2, b3⟩ := zfZ hB
 have HB := Lib.hid hB
 clear hB H0
 have HK := Lib.hid hk
 have e1 : (k == 1) = false := by simp; omega
 have e2 : (k == 2) = false := by simp; omega
 have e3 : (k == 3) = false := by simp; omega
 have e4 : (k == 4) = false := by simp; omega
 have e5 : (k == 5) = false := by simp; omega
 have e6 : (k == 6) = true := by simp; omega
 clear hk
 go_upto_block 0 with fail
 obtain ⟨w2, hw2⟩ : ∃ w2, w.alloc (.cells #[.int .i64 p, .int .i64 k, .string S, .int .i64 n] 133) = w2 := ⟨_, rfl⟩
 rw [hw2] at b0 b1 b2 b3 HB hW ⊢
 have hz2 : w.heap.size < w2.heap.size := zaZ HB.out
 have HW := Lib.hid hW
 clear hw2 hW
 go_upto_region 20 with (go_at_call 139; refine (zepZ _).mono ?_; rintro e W1 ⟨rfl, hWe⟩; rw [hWe]; clear hWe)
 have hblk := heap_alloc_new w2 (.cells sgCells 9)
 have hb4 := heap_alloc HB.out (.cells sgCells 9)
 have hw4 := HW.out.alloc (.cells sgCells 9)
 have hsz := World.size_alloc w2 (.cells sgCells 9)
 obtain ⟨L, hL⟩ : ∃ L, w2.heap.size = L := ⟨_, rfl⟩
 obtain ⟨W2, hW2⟩ : ∃ W2, w2.alloc (.cells sgCells 9) = W2 := ⟨_, rfl⟩
 rw [hL, hW2] at hblk
 rw [hW2] at hb4 hw4
 rw [hL, hW2]
 have HS2 := Lib.hid hblk
 have HB2 := Lib.hid hb4
 have HW2 := Lib.hid hw4
 clear hblk hb4 hw4 hsz hL hW2 b0 b1 b2 b3 HB HW hz2
 go_wp2_with fail
 go_loopg [9] 14 (fun i v wr => ∃ m : Nat, i = 14 - m ∧ v = .int .i64 (m : Int) ∧ m ≤ 14 ∧ wr.heap = W2.heap ∧ LW w wr ∧ (sgs.take m).contains S.data.toList = false)
 case atStart => exact ⟨0, rfl, rfl, Nat.zero_le _, rfl, HW2.out, rfl⟩
 case round =>
  obtain ⟨m, hi, rfl, hm, hwe, hwl, hc⟩ := hrel
  have HI := Lib.hid hi
  have HC := Lib.hid hc
  have HWE := Lib.hid hwe
  have HWL := Lib.hid hwl
  have HS3 : Hid (wr.heap[L]? = some (.cells sgCells 9 (0, 0))) := Lib.hid (by rw [hwe]; exact HS2.out)
  have hB3 : wr.heap[w.heap.size]? = some (.cells #[.int .i64 p, .int .i64 k, .string S, .int .i64 n] 133 (0, 0)) := by rw [hwe]; exact HB2.out
  obtain ⟨c0, c1, c2, c3⟩ := zfZ hB3
  have HB3 := Lib.hid hB3
  have hl3 := zaZ hB3
  have hl4 := zaZ HS3.out
  clear hi hc hwe hwl hB3
  by_cases hlt : m < 14
  ·have hi2 : (m : Int) < 14 := by omega
   have hi0 : (0 : Int) ≤ (m : Int) := by omega
   have t0 := (cell_of HS3.out m).trans (zcyZ m hlt)
   have hst := znjZ S.data.toList m hlt
   rw [HC.out, Bool.false_or] at hst
   obtain ⟨x, hx⟩ : ∃ x, sgs.getD m [] = x := ⟨_, rfl⟩
   have hmem : x ∈ sgs := by
    rw [← hx, List.getD_eq_getElem?_getD, List.getElem?_eq_getElem (show m < sgs.length from hlt)]
    exact List.getElem_mem _
   rw [hx] at t0 hst
   obtain ⟨X, hX⟩ : ∃ X : ByteArray, (⟨x.toArray⟩ : ByteArray) = X := ⟨_, rfl⟩
   have hcmp : (X.toList == S.toList) = (x == S.data.toList) := by rw [← hX, ByteArray.toList_mk, ByteArray.toList_eq]
   rw [hX] at t0
   clear hX hx
   cases hq : (x == S.data.toList) with
   | true =>
    rw [hq] at hcmp
    have HR := Lib.hid (show Lx.oneR ⟨p, k, S.data.toList, n⟩ = (S.data.toList, n == 0) by
     unfold Lx.oneR
     simp only
     have h6 := HK.out
     rw [if_neg (by omega), if_neg (by omega), if_neg (by omega), if_pos h6, if_pos]
     rw [List.contains_iff_mem, ← show x = S.data.toList by simpa using hq]
     exact hmem)
    clear hst hq hmem
    go_wp2_with fail
    go_quiet (fail)
    obtain ⟨W4, hW4⟩ : ∃ W4, wr.drewN nq = W4 := ⟨_, rfl⟩
    have HW4 : Hid (LW w W4) := Lib.hid (by rw [← hW4]; exact HWL.out.drewN _)
    have hB4 : W4.heap[w.heap.size]? = some (.cells #[.int .i64 p, .int .i64 k, .string S, .int .i64 n] 133 (0, 0)) := by rw [← hW4]; exact HB3.out
    rw [hW4]
    clear hW4 c0 c1 c2 c3 t0 hl3 hl4
    obtain ⟨c0, c1, c2, c3⟩ := zfZ hB4
    have hl3 := zaZ hB4
    clear hB4
    cases hn : (n == 0) with
    | false =>
     rw [hn] at HR
     go_wp2_with fail
     go_quiet (fail)
     go_wp2_with fail
     refine bodyPost_ret (results_tmp2 rfl _ _ _) rfl ?_
     rw [HR.out, mk_back]
     exact ⟨rfl, HW4.out.drewN _⟩
    | true =>
     rw [hn] at HR
     go_wp2_with fail
     go_quiet (fail)
     go_wp2_with fail
     refine bodyPost_ret (results_tmp2 rfl _ _ _) rfl ?_
     rw [HR.out, mk_back]
     exact ⟨rfl, HW4.out.drewN _⟩
   | false =>
    rw [hq] at hcmp hst
    have HG := Lib.hid hst
    clear hst hq hmem
    go_wp2_with fail
    go_quiet (fail)
    go_wp2_with fail
    go_roundg (14 - (m + 1))
    case measure => have := HI.out; omega
    case rel => exact ⟨m + 1, rfl, by simp, hlt, HWE.out, HWL.out.drewN _, HG.out⟩
  ·have hi2 : ¬ (m : Int) < 14 := by omega
   have hme : m = 14 := by omega
   have HR := Lib.hid (show Lx.oneR ⟨p, k, S.data.toList, n⟩ = ([], false) by
    unfold Lx.oneR
    simp only
    have h6 := HK.out
    have h := HC.out
    rw [hme, List.take_of_length_le (show sgs.length ≤ 14 from Nat.le_refl _)] at h
    rw [if_neg (by omega), if_neg (by omega), if_neg (by omega), if_pos h6, if_neg (by rw [h]; simp)])
   clear hme
   go_wp2_with fail
   refine bodyPost_ret (results_tmp2 rfl _ _ _) rfl ?_
   rw [HR.out]
   exact ⟨rfl, HWL.out⟩
set_option maxRecDepth 100000 in
set_option maxHeartbeats 4000000 in
theorem zkuZ (w : World) (p k n : Int) (S : ByteArray) (hG : GL w) (hN : NG ≤ w.heap.size) (hs : S.size ≤ 1000000) (hn0 : -9223372036854775808 ≤ n) (hn1 : n ≤ 9223372036854775807) (hk : ¬ (k = 1 ∨ k = 2 ∨ k = 3 ∨ k = 4 ∨ k = 5 ∨ k = 6)) :
  Calls Tryz.prog 122 #[.agg #[.int .i64 p, .int .i64 k, .string S, .int .i64 n]] w fun e w' => e = .returned (.tuple #[.string ⟨(Lx.oneR ⟨p, k, S.data.toList, n⟩).1.toArray⟩, .bool (Lx.oneR ⟨p, k, S.data.toList, n⟩).2]) ∧ LW w w' := by
 have hsi : (S.size : Int) ≤ 1000000 := by omega
 have H0 := LW.refl hG hN
 go_enter Tryz.func122, Tryz.ntmps122
 have hB := heap_alloc_new w (.cells #[.int .i64 p, .int .i64 k, .string S, .int .i64 n] 133)
 have hW := H0.alloc (.cells #[.int .i64 p, .int .i64 k, .string S, .int .i64 n] 133)
 obtain ⟨b0, b1, b2, b3⟩ := zfZ hB
 have HB := Lib.hid hB
 clear hB H0
 have HR := Lib.hid (show Lx.oneR ⟨p, k, S.data.toList, n⟩ = ([], false) by
  unfold Lx.oneR
  simp only
  rw [if_neg (by omega), if_neg (by omega), if_neg (by omega), if_neg (by omega)])
 have e1 : (k == 1) = false := by simp; omega
 have e2 : (k == 2) = false := by simp; omega
 have e3 : (k == 3) = false := by simp; omega
 have e4 : (k == 4) = false := by simp; omega
 have e5 : (k == 5) = false := by simp; omega
 have e6 : (k == 6) = false := by simp; omega
 clear hk
 go_upto_block 0 with fail
 obtain ⟨w2, hw2⟩ : ∃ w2, w.alloc (.cells #[.int .i64 p, .int .i64 k, .string S, .int .i64 n] 133) = w2 := ⟨_, rfl⟩
 rw [hw2] at b0 b1 b2 b3 HB hW ⊢
 have hz2 : w.heap.size < w2.heap.size := zaZ HB.out
 have HW := Lib.hid hW
 clear hw2 hW
 go_wp2_with fail
 refine bodyPost_ret (results_tmp2 rfl _ _ _) rfl ?_
 rw [HR.out]
 exact ⟨rfl, HW.out⟩
theorem zkvZ {p k n : Int} {S : ByteArray} (hk : k = 1 ∨ k = 2 ∨ k = 3) : (Lx.oneR ⟨p, k, S.data.toList, n⟩).1.toArray = S.data ∧ (Lx.oneR ⟨p, k, S.data.toList, n⟩).2 = Lx.nameOk ⟨p, k, S.data.toList, n⟩ := by
 unfold Lx.oneR
 rw [if_pos hk]
 exact ⟨by simp, rfl⟩
theorem refOneS (w : World) (p k n : Int) (S : ByteArray) (hG : GL w) (hN : NG ≤ w.heap.size) (hs : S.size ≤ 1000000) (hn0 : -9223372036854775808 ≤ n) (hn1 : n ≤ 9223372036854775807) :
  Calls Tryz.prog 122 #[.agg #[.int .i64 p, .int .i64 k, .string S, .int .i64 n]] w fun e w' => e = .returned (.tuple #[.string ⟨(Lx.oneR ⟨p, k, S.data.toList, n⟩).1.toArray⟩, .bool (Lx.oneR ⟨p, k, S.data.toList, n⟩).2]) ∧ LW w w' := by
 by_cases h : k = 1 ∨ k = 2 ∨ k = 3
 ·obtain ⟨e1, e2⟩ := zkvZ (p := p) (n := n) (S := S) h
  rw [e1, e2]
  rcases h with h | h | h
  ·exact zkqZ w p k n S hG hN hs hn0 hn1 h
  ·exact zkrZ w p k n S hG hN hs hn0 hn1 h
  ·exact zksZ w p k n S hG hN hs hn0 hn1 h
 ·by_cases h4 : k = 4
  ·by_cases hneg : n < 0
   ·exact one_neg w p k n S hG hN hs hn0 hn1 h4 hneg
   ·by_cases hS : S.data.toList = []
    ·exact zjaZ w p k n S hG hN hs hn0 hn1 h4 n.toNat (by omega) hS
    ·exact zfnZ w p k n S hG hN hs hn0 hn1 h4 (by omega) hS
  ·by_cases h5 : k = 5
   ·exact zniZ w p k n S hG hN hs hn0 hn1 h5
   ·by_cases h6 : k = 6
    ·exact znkZ w p k n S hG hN hs hn0 hn1 h6
    ·exact zkuZ w p k n S hG hN hs hn0 hn1 (by omega)
theorem refOne {w W : World} (h : LW w W) (t : Lx.Tok) (hs : t.s.length ≤ 1000000) (hn0 : -9223372036854775808 ≤ t.n) (hn1 : t.n ≤ 9223372036854775807) :
  Calls Tryz.prog 122 #[.agg #[.int .i64 t.pos, .int .i64 t.kind, .string ⟨t.s.toArray⟩, .int .i64 t.n]] W fun e W' => e = .returned (.tuple #[.string ⟨(Lx.oneR t).1.toArray⟩, .bool (Lx.oneR t).2]) ∧ LW w W' :=
 (refOneS W t.pos t.kind t.n ⟨t.s.toArray⟩ h.g h.n hs hn0 hn1).mono fun e W' h' => ⟨h'.1, h.trans h'.2⟩
end Go.Proofs.YtdncljdfmdgdaaaGreatDoor
namespace Go.Proofs.YtdncljdfmdgdaaaGreatDoor
open Go.RowKit Go.Shelf
set_option linter.unusedSimpArgs false
set_option linter.unusedVariables false
theorem zfyZ (k : Int) (s : Lx.Bytes) : (Lx.oneR ⟨0, k, s, 0⟩).2 = isTok k s := by
 rw [(Lx.one_written (t := ⟨0, k, s, 0⟩) (by show (0 : Int) ≤ _; decide)).1]
 unfold isTok Lx.join
 rw [Lx.joinFrom, Lx.joinFrom]
 cases h : (Lx.written ⟨0, k, s, 0⟩).2 with
 | false => simp
 | true =>
  simp only [if_true]
  split
  ·rfl
  ·rename_i hn; simp
set_option maxRecDepth 100000 in
set_option maxHeartbeats 2000000 in
theorem zkwZ {w W : World} (h : LW w W) (s : Lx.Bytes) (hs : s.length ≤ 1000000) :
  Calls Tryz.prog 83 #[.string ⟨s.toArray⟩] W fun e W' => e = .returned (.bool (NM.small s)) ∧ LW w W' := by
 have hone := refOne h ⟨0, 1, s, 0⟩ hs (by show _ ≤ (0 : Int); decide) (by show (0 : Int) ≤ _; decide)
 rw [zfyZ] at hone
 have HO := Lib.hid hone
 clear hone h
 go_enter Tryz.func83, Tryz.ntmps83
 go_wp2_with fail
 refine HO.out.mono ?_
 rintro e W1 ⟨rfl, h1⟩
 go_wp2_with fail
 go_ret
 exact ⟨rfl, h1⟩
set_option maxRecDepth 100000 in
set_option maxHeartbeats 2000000 in
theorem zkxZ {w W : World} (h : LW w W) (s : Lx.Bytes) (hs : s.length ≤ 1000000) :
  Calls Tryz.prog 67 #[.string ⟨s.toArray⟩] W fun e W' => e = .returned (.bool (NM.great s)) ∧ LW w W' := by
 have hone := refOne h ⟨0, 2, s, 0⟩ hs (by show _ ≤ (0 : Int); decide) (by show (0 : Int) ≤ _; decide)
 rw [zfyZ] at hone
 have HO := Lib.hid hone
 clear hone h
 go_enter Tryz.func67, Tryz.ntmps67
 go_wp2_with fail
 refine HO.out.mono ?_
 rintro e W1 ⟨rfl, h1⟩
 go_wp2_with fail
 go_ret
 exact ⟨rfl, h1⟩
end Go.Proofs.YtdncljdfmdgdaaaGreatDoor
namespace Go.Proofs.YtdncljdfmdgdaaaGreatDoor
open Go.RowKit Go.Shelf
set_option linter.unusedSimpArgs false
set_option linter.unusedVariables false
theorem Sx.apart_false {l : List Lx.Bytes} (h : (∃ s ∈ l, NM.small s = false) ∨ ¬ l.Nodup) : Sx.apart NM l = false := by
 cases ha : Sx.apart NM l with
 | false => rfl
 | true =>
  obtain ⟨h1, h2⟩ := (Sx.apart_iff NM l).1 ha
  rcases h with ⟨s, hs, hf⟩ | h
  ·rw [h1 s hs] at hf; cases hf
  ·exact absurd h2 h
theorem zjbZ {l : List Lx.Bytes} {i : Nat} (hi : i < l.length) (h : (l.take i).Nodup) (hn : ∀ p (hp : p < i), l[p]'(by omega) ≠ l[i]) : (l.take (i + 1)).Nodup := by
 rw [List.take_succ_eq_append_getElem hi]
 refine List.nodup_append.2 ⟨h, by simp, fun x hx y hy e => ?_⟩
 simp only [List.mem_singleton] at hy
 subst hy e
 obtain ⟨p, hp, hpe⟩ := List.getElem_of_mem hx
 have hpi : p < i := by rw [List.length_take] at hp; omega
 rw [List.getElem_take] at hpe
 exact hn p hpi hpe
set_option maxRecDepth 100000 in
set_option maxHeartbeats 8000000 in
theorem zhqZ {w0 W : World} (h0 : LW w0 W) (l : List Lx.Bytes) (v : Value) (hv : StrRow W v l) (hl : l.length ≤ 1000000) (hls : ∀ s ∈ l, s.length ≤ 1000000) :
  Calls Tryz.prog 68 #[v] W fun e W' => e = .returned (.bool (Sx.apart NM l)) ∧ LW W W' := by
 obtain ⟨A, c, rfl, hrow⟩ := hv
 have HV := Lib.hid (show StrRow W (.slice A l.length c) l from ⟨A, c, rfl, hrow⟩)
 have HLS := Lib.hid hls
 have HW := Lib.hid h0.self
 clear hrow hls h0
 obtain ⟨k, hk⟩ : ∃ k, l.length = k := ⟨_, rfl⟩
 rw [hk] at HV hl ⊢
 have HK := Lib.hid hk
 have k0 : (0 : Int) ≤ (k : Int) := by omega
 have k1 : (k : Int) ≤ 1000000 := by omega
 clear hk
 go_enter Tryz.func68, Tryz.ntmps68
 go_wp2_with fail
 go_loopg [3, 4] k (fun n v3 v4 wr => ∃ i : Nat, n = k - i ∧ v3 = .int .i64 (i : Nat) ∧ i ≤ k ∧ Sx.apart NM (l.take i) = true ∧ LW W wr)
 case atStart => exact ⟨0, rfl, rfl, Nat.zero_le _, by simp [Sx.apart], HW.out⟩
 case round =>
  obtain ⟨i, hn, rfl, hi, hap, hw⟩ := hrel
  have HN := Lib.hid hn
  have HAP := Lib.hid ((Sx.apart_iff NM _).1 hap)
  have HWR := Lib.hid hw
  have i0 : (0 : Int) ≤ (i : Int) := by omega
  have i1 : (i : Int) ≤ 1000000 := by omega
  clear hn hap hw
  by_cases hlt : i < k
  ·have hii : (i : Int) < (k : Int) := by omega
   have hil : i < l.length := by have := HK.out; omega
   obtain ⟨g, off, rfl, hsp⟩ := HV.out.spot i hil
   obtain ⟨hg, q0⟩ := hsp wr HWR.out.b
   have hsm := HLS.out _ (List.getElem_mem hil)
   have hmem := List.getElem_mem hil
   have HNE := Lib.hid (fun (h : NM.small l[i] = true) (hne : ∀ p (hp : p < i), l[p]'(by omega) ≠ l[i]) => (Sx.apart_iff NM (l.take (i + 1))).2 ⟨fun s hs => by
    rw [List.take_succ_eq_append_getElem hil, List.mem_append, List.mem_singleton] at hs
    rcases hs with hs | rfl
    ·exact HAP.out.1 s hs
    ·exact h, zjbZ hil HAP.out.2 hne⟩)
   have HSP := Lib.hid hsp
   obtain ⟨s, hs⟩ : ∃ s, l[i]'hil = s := ⟨_, rfl⟩
   rw [hs] at q0 hsm hmem HSP HNE
   have HSM := Lib.hid (zkwZ HWR.out s hsm)
   have HS := Lib.hid hs
   have HMEM := Lib.hid hmem
   clear hsp hsm hs hmem
   go_wp2_with fail
   cases hb : NM.small s with
   | false =>
    rw [hb] at HSM
    have HF := Lib.hid (Sx.apart_false (.inl ⟨s, HMEM.out, hb⟩))
    clear hb
    refine HSM.out.mono ?_
    rintro e w5 ⟨rfl, hw5⟩
    go_wp2_with fail
    go_ret
    rw [HF.out]
    exact ⟨rfl, hw5⟩
   | true =>
    rw [hb] at HSM
    have HNE2 := Lib.hid (HNE.out hb)
    clear hb
    refine HSM.out.mono ?_
    rintro e w5 ⟨rfl, hw5⟩
    have HW5 := Lib.hid hw5
    clear hw5 hg q0
    go_wp2_with fail
    go_loopg [4] i (fun n v4 w9 => ∃ j : Nat, n = i - j ∧ v4 = .int .i64 (j : Nat) ∧ j ≤ i ∧ (∀ p (hp : p < j) (hpl : p < l.length), l[p]'hpl ≠ s) ∧ LW W w9)
    case atStart => exact ⟨0, rfl, rfl, Nat.zero_le _, fun p hp => by omega, HW5.out⟩
    case round =>
     obtain ⟨j, hn, rfl, hj, hne, hw⟩ := hrel
     have HN2 := Lib.hid hn
     have HNJ := Lib.hid hne
     have HW9 := Lib.hid hw
     have j0 : (0 : Int) ≤ (j : Int) := by omega
     have j1 : (j : Int) ≤ 1000000 := by omega
     clear hn hne hw
     by_cases hlt2 : j < i
     ·have hji : (j : Int) < (i : Int) := by omega
      have hjk : (j : Int) < (k : Int) := by omega
      have hjl : j < l.length := by omega
      obtain ⟨hg, q0⟩ := HSP.out wr HW9.out.b
      obtain ⟨g2, off2, e2, hsp2⟩ := HV.out.spot j hjl
      injection e2 with e2
      injection e2 with e2 e3
      subst e2 e3
      obtain ⟨hg2, q1⟩ := hsp2 wr HW9.out.b
      obtain ⟨x, hx⟩ : ∃ x, l[j]'hjl = x := ⟨_, rfl⟩
      rw [hx] at q1
      have HX := Lib.hid hx
      clear hsp2 hx
      cases hq : (s == x) with
      | true =>
       have hsx : s = x := by simpa using hq
       have HF := Lib.hid (Sx.apart_false (l := l) (.inr fun hnd => by
        exact (List.pairwise_iff_getElem.1 hnd) j i hjl hil hlt2 (by rw [HX.out, HS.out, hsx])))
       clear hsx
       go_wp2_with fail
       go_quiet (fail)
       go_wp2_with fail
       go_ret
       rw [HF.out]
       exact ⟨rfl, HW9.out.drewN _⟩
      | false =>
       have hsx : ¬ s = x := by simpa using hq
       have HF := Lib.hid hsx
       clear hsx
       go_wp2_with fail
       go_quiet (fail)
       go_wp2_with fail
       go_roundg (i - (j + 1))
       case measure => have := HN2.out; omega
       case rel =>
        refine ⟨j + 1, rfl, by simp, hlt2, fun p hp hpl => ?_, HW9.out.drewN _⟩
        by_cases hpj : p < j
        ·exact HNJ.out p hpj hpl
        ·obtain rfl : p = j := by omega
         rw [HX.out]
         exact fun e => HF.out e.symm
     ·have hji : ¬ (j : Int) < (i : Int) := by omega
      have HFIN := Lib.hid (HNE2.out fun p hp => HNJ.out p (by omega) (by omega))
      go_wp2_with fail
      go_roundg (k - (i + 1))
      case measure => have := HN.out; omega
      case rel => exact ⟨i + 1, rfl, by simp, hlt, HFIN.out, HW9.out⟩
  ·have hii : ¬ (i : Int) < (k : Int) := by omega
   have HF := Lib.hid (show Sx.apart NM l = true by
    have h := (Sx.apart_iff NM _).2 HAP.out
    rwa [List.take_of_length_le (by have := HK.out; omega)] at h)
   go_wp2_with fail
   go_ret
   rw [HF.out]
   exact ⟨rfl, HWR.out⟩
end Go.Proofs.YtdncljdfmdgdaaaGreatDoor
