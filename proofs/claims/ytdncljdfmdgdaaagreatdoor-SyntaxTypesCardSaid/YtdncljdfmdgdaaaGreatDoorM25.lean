/-
  coilref1.number.
-/
/-
 coilref1.number.
-/
import Derived.Test.YtdncljdfmdgdaaaGreatDoorM24
namespace Go.Proofs.YtdncljdfmdgdaaaGreatDoor
open Go.RowKit
set_option linter.unusedSimpArgs false
set_option linter.unusedVariables false
theorem zixZ (l : Lx.Bytes) (c : UInt8) : Lx.value (l ++ [c]) = Lx.value l * 10 + (c.toNat - 48) := by
 unfold Lx.value
 rw [List.foldl_append]
 rfl
theorem zhmZ : ∀ (l : Lx.Bytes) (v : Nat), 1 ≤ v → 10 ^ l.length * v ≤ l.foldl (fun v c => v * 10 + (c.toNat - 48)) v
 | [], v, _ => by simp
 | c :: l, v, hv => by
  rw [List.foldl_cons]
  refine Nat.le_trans ?_ (zhmZ l (v * 10 + (c.toNat - 48)) (by omega))
  rw [List.length_cons, Nat.pow_succ]
  have : 10 ^ l.length * 10 * v = 10 ^ l.length * (v * 10) := by rw [Nat.mul_assoc, Nat.mul_comm 10 v]
  rw [this]
  exact Nat.mul_le_mul_left _ (by omega)
theorem zeqZ : ∀ (l : Lx.Bytes) (v : Nat), (∀ c ∈ l, Lx.digit c = true) → l.foldl (fun v c => v * 10 + (c.toNat - 48)) v + 1 ≤ 10 ^ l.length * (v + 1)
 | [], v, _ => by simp
 | c :: l, v, h => by
  have hc := h c (List.mem_cons_self ..)
  simp only [Lx.digit, Bool.and_eq_true, decide_eq_true_eq] at hc
  rw [List.foldl_cons]
  refine Nat.le_trans (zeqZ l (v * 10 + (c.toNat - 48)) (fun d hd => h d (List.mem_cons_of_mem _ hd))) ?_
  rw [List.length_cons, Nat.pow_succ, Nat.mul_assoc]
  exact Nat.mul_le_mul_left _ (by omega)
theorem zieZ {p : Nat} {l : Lx.Bytes} (h : 19 < (l.takeWhile Lx.digit).length) : Lx.cutNumber p l = .bad 11 p := by
 unfold Lx.cutNumber
 simp only
 rw [if_pos]
 cases l with
 | nil => simp at h
 | cons c l =>
  have hd : Lx.digit c = true := by
   cases hd : Lx.digit c with
   | true => rfl
   | false => rw [List.takeWhile_cons, if_neg (by simp [hd])] at h; simp at h
  by_cases h48 : c = 48
  ·subst h48
   simp only [List.head?_cons, beq_self_eq_true, Bool.true_and, Bool.or_eq_true, decide_eq_true_eq]
   exact .inl (.inr (by omega))
  ·have hne : c.toNat ≠ 48 := fun e => h48 (UInt8.toNat_inj.1 e)
   have hd' := hd
   simp only [Lx.digit, Bool.and_eq_true, decide_eq_true_eq] at hd'
   rw [List.takeWhile_cons, if_pos hd] at h ⊢
   simp only [Bool.or_eq_true, decide_eq_true_eq]
   refine .inl (.inl ?_)
   unfold Lx.value
   rw [List.foldl_cons]
   have := zhmZ (l.takeWhile Lx.digit) (0 * 10 + (c.toNat - 48)) (by omega)
   refine Nat.lt_of_lt_of_le ?_ this
   rw [List.length_cons] at h
   have hp : 10 ^ 19 ≤ 10 ^ (l.takeWhile Lx.digit).length := Nat.pow_le_pow_right (by decide) (by omega)
   have h1 : (10 : Nat) ^ 19 = 10000000000000000000 := by decide
   have h2 : 10 ^ (l.takeWhile Lx.digit).length * 1 ≤ 10 ^ (l.takeWhile Lx.digit).length * (0 * 10 + (c.toNat - 48)) := Nat.mul_le_mul_left _ (by omega)
   omega
theorem zkjZ {l : Lx.Bytes} (h : ∀ c ∈ l, Lx.digit c = true) (hl : l.length ≤ 19) : Lx.value l < 10000000000000000000 := by
 have h1 := zeqZ l 0 h
 have hp : 10 ^ l.length ≤ 10 ^ 19 := Nat.pow_le_pow_right (by decide) hl
 have h2 : (10 : Nat) ^ 19 = 10000000000000000000 := by decide
 unfold Lx.value
 omega
theorem zifZ {s : ByteArray} {k m : Nat} (hkm : k ≤ m) (hlt : m < s.size) (hd : Lx.digit (s[m]'hlt) = true)
  (he : (s.data.toList.drop k).takeWhile Lx.digit = (s.data.toList.drop k).take (m - k) ++ (s.data.toList.drop m).takeWhile Lx.digit) :
  (s.data.toList.drop k).takeWhile Lx.digit = (s.data.toList.drop k).take (m + 1 - k) ++ (s.data.toList.drop (m + 1)).takeWhile Lx.digit := by
 rw [he, zbfZ s k m hkm hlt, byte_at s m hlt, List.takeWhile_cons, if_pos hd]
 simp
theorem zfxZ {s : ByteArray} {k m : Nat} {D : Lx.Bytes} (hkm : k < m) (hm : m ≤ s.size) (hD : D = (s.data.toList.drop k).take (m - k)) (he : (s.data.toList.drop k).takeWhile Lx.digit = D) :
  Lx.cutNumber k (s.data.toList.drop k) = if (decide (9223372036854775807 < Lx.value D) || ((s[k]'(by omega)).toNat == 48 && decide (k + 1 < m)) || ((s.data.toList.drop m).head?.map Lx.within).getD false) = true then .bad 11 k else .ok ⟨k, 4, [], Lx.value D⟩ (m - k) := by
 have hl : D.length = m - k := by rw [hD, List.length_take, List.length_drop, zgZ]; omega
 have hd : (s.data.toList.drop k).drop D.length = s.data.toList.drop m := by rw [hl, List.drop_drop, show k + (m - k) = m by omega]
 have hh : (s.data.toList.drop k).head? = some (s[k]'(by omega)) := by rw [byte_at s k (by omega)]; rfl
 have h48 : ((some (s[k]'(by omega)) : Option UInt8) == some 48) = ((s[k]'(by omega)).toNat == 48) := by
  rw [Bool.eq_iff_iff]
  simp only [beq_iff_eq, Option.some.injEq]
  exact ⟨fun h => by rw [h]; rfl, fun h => UInt8.toNat_inj.1 h⟩
 unfold Lx.cutNumber
 simp only [he, hd, hh, h48]
 rw [hl]
 have : decide (1 < m - k) = decide (k + 1 < m) := by rw [decide_eq_decide]; omega
 rw [this]
set_option maxRecDepth 100000 in
set_option maxHeartbeats 4000000 in
theorem zkkZ (s : ByteArray) (k : Nat) (w : World) (hk : k < s.size) (hs : s.size ≤ 140737488351232) (hl : Lx.digit (s[k]'hk) = true) :
  Calls Tryz.prog 168 #[.string s, .int .i64 (k : Int)] w fun e w' => e = .returned (cutV k (Lx.cutNumber k (s.data.toList.drop k))) ∧ Below w.heap.size w w' := by
 have hsi : (s.size : Int) ≤ 140737488351232 := by omega
 have hki : (k : Int) ≤ (s.size : Int) := by omega
 have hk0 : (0 : Int) ≤ (k : Int) := by omega
 go_enter Tryz.func168, Tryz.ntmps168
 go_upto_region 1 with fail
 have hblk := heap_alloc_new w (.cells #[.int .i64 0, .int .i64 0, .string ⟨#[]⟩, .int .i64 0, .int .i64 0, .int .i64 0, .int .i64 0] 193)
 have hb := zdZ (World.grownBy_alloc w (.cells #[.int .i64 0, .int .i64 0, .string ⟨#[]⟩, .int .i64 0, .int .i64 0, .int .i64 0, .int .i64 0] 193) none)
 obtain ⟨W1, hW1⟩ : ∃ W1, w.alloc (.cells #[.int .i64 0, .int .i64 0, .string ⟨#[]⟩, .int .i64 0, .int .i64 0, .int .i64 0, .int .i64 0] 193) = W1 := ⟨_, rfl⟩
 rw [hW1] at hblk hb ⊢
 have HBLK := Lib.hid hblk
 have hrl := zaZ hblk
 clear hblk hW1
 go_wp2_with fail
 go_loopg [5, 6] (s.size - k) (fun n v u wr => ∃ (m U : Nat), n = s.size - m ∧ v = .int .i64 (m : Int) ∧ u = .int .u64 (U : Int) ∧ k ≤ m ∧ m ≤ s.size ∧ m ≤ k + 19 ∧ wr = W1 ∧ U = Lx.value ((s.data.toList.drop k).take (m - k)) ∧ (∀ c ∈ (s.data.toList.drop k).take (m - k), Lx.digit c = true) ∧
  (s.data.toList.drop k).takeWhile Lx.digit = (s.data.toList.drop k).take (m - k) ++ (s.data.toList.drop m).takeWhile Lx.digit)
 case atStart => exact ⟨k, 0, rfl, rfl, rfl, Nat.le_refl _, by omega, by omega, rfl, by rw [Nat.sub_self]; rfl, by simp, by simp⟩
 case round =>
  obtain ⟨m, U, hn, rfl, rfl, hkm, hm, hm19, rfl, hU, hdg, he⟩ := hrel
  have HE := Lib.hid he
  have HN := Lib.hid hn
  have HU := Lib.hid hU
  have HDG := Lib.hid hdg
  have hlen : ((s.data.toList.drop k).take (m - k)).length = m - k := by rw [List.length_take, List.length_drop, zgZ]; omega
  have hUb : U < 10000000000000000000 := by rw [hU]; exact zkjZ hdg (by omega)
  have HLEN := Lib.hid hlen
  clear he hn hU hdg hlen
  have hi0 : (0 : Int) ≤ (m : Int) := by omega
  have hkmi : (k : Int) ≤ (m : Int) := by omega
  have hU1 : (U : Int) < 10000000000000000000 := by omega
  by_cases hlt : m < s.size
  ·have hi : (m : Int) < (s.size : Int) := by omega
   have HD0 := Lib.hid (byte_at s m hlt)
   cases hwi : Lx.digit (s[m]'hlt) with
   | true =>
    have hgc := zxZ (s[m]'hlt) wr
    rw [hwi] at hgc
    by_cases h19 : m = k + 19
    ·have hB : (18 : Int) < (m : Int) - (k : Int) := by omega
     have HR := Lib.hid (show Lx.cutNumber k (s.data.toList.drop k) = .bad 11 k from zieZ (by
      rw [HE.out, List.length_append, HLEN.out, HD0.out, List.takeWhile_cons, if_pos hwi]
      simp
      omega))
     have hwr := zyZ 11 (k : Int) wr
     clear hwi h19
     go_wp2_with (first
      | (go_at_call 166; refine hgc.mono ?_; clear hgc; rintro e w' ⟨rfl, hwe⟩; rw [← hwe]; clear hwe)
      | (go_at_call 170; refine hwr.mono ?_; clear hwr; rintro e W3 ⟨rfl, hb3⟩; obtain ⟨⟨a0, a1, a2, a3, a4, a5, a6⟩, ⟨f0, f1, f2, f3, f4, f5, f6⟩, hl3⟩ := zeZ ((hb3.block _ hrl).trans HBLK.out)))
     refine bodyPost_ret (v := .agg #[.int .i64 0, .int .i64 0, .string ⟨#[]⟩, .int .i64 0, .int .i64 0, .int .i64 11, .int .i64 (k : Int)]) (by simp [results, Tryz.results168, go_sem, a0, a1, a2, a3, a4, a5, a6, f0, f1, f2, f3, f4, f5, f6, hl3]) rfl ?_
     rw [HR.out]
     have hbf := Below.chain hb hb3
     refine ⟨rfl, ?_⟩
     repeat (first | (with_reducible exact hbf) | with_reducible refine BSet ?_ (Nat.le_refl _))
    ·have hB : ¬ (18 : Int) < (m : Int) - (k : Int) := by omega
     have hcd : 48 ≤ (s[m]'hlt).toNat ∧ (s[m]'hlt).toNat ≤ 57 := by simpa [Lx.digit] using hwi
     have hU18 : U < 1000000000000000000 := by
      have h1 := zeqZ ((s.data.toList.drop k).take (m - k)) 0 HDG.out
      have hp : 10 ^ ((s.data.toList.drop k).take (m - k)).length ≤ 10 ^ 18 := Nat.pow_le_pow_right (by decide) (by rw [HLEN.out]; omega)
      have h2 : (10 : Nat) ^ 18 = 1000000000000000000 := by decide
      have h3 : U = ((s.data.toList.drop k).take (m - k)).foldl (fun v c => v * 10 + (c.toNat - 48)) 0 := HU.out
      omega
     have hUi : (U : Int) < 1000000000000000000 := by omega
     have c1 : (48 : Int) ≤ ((s[m]'hlt).toNat : Int) := by omega
     have c2 : ((s[m]'hlt).toNat : Int) ≤ 57 := by omega
     have HG := Lib.hid (zifZ hkm hlt hwi HE.out)
     have HT := Lib.hid (zbfZ s k m hkm hlt)
     have HWI := Lib.hid hwi
     have HUB := Lib.hid hU18
     have HCD := Lib.hid hcd
     clear hwi hU18 hUb hcd h19 hUi hU1 c1 c2
     go_wp2_with (go_at_call 166; refine hgc.mono ?_; clear hgc; rintro e w' ⟨rfl, hwe⟩; rw [← hwe]; clear hwe)
     go_roundg (s.size - (m + 1))
     case measure => have := HN.out; omega
     case rel =>
      have h1 := HUB.out
      have h2 := HCD.out
      refine ⟨m + 1, U * 10 + ((s[m]'hlt).toNat - 48), rfl, by simp, ?_, by omega, hlt, by omega, rfl, ?_, ?_, HG.out⟩
      ·rw [IntKind.wrap_u64, IntKind.wrap_u64]
       congr 1
       omega
      ·rw [HT.out, zixZ, ← HU.out]
      ·intro d hd
       rw [HT.out, List.mem_append, List.mem_singleton] at hd
       rcases hd with hd | hd
       ·exact HDG.out d hd
       ·rw [hd]; exact HWI.out
   | false =>
    have hgc := zxZ (s[m]'hlt) wr
    rw [hwi] at hgc
    have hfin : (s.data.toList.drop k).takeWhile Lx.digit = (s.data.toList.drop k).take (m - k) := by
     have e := HE.out
     rw [HD0.out, List.takeWhile_cons, hwi] at e
     simpa using e
    have HWI := Lib.hid hwi
    clear hwi
    have hkm' : k < m := by
     rcases Nat.lt_or_ge k m with h | h
     ·exact h
     ·exfalso
      have e := hfin
      rw [byte_at s k hk, List.takeWhile_cons, if_pos hl, show m - k = 0 from by omega] at e
      simp at e
    have hat := zfxZ hkm' hm rfl hfin
    rw [← HU.out] at hat
    have HAT := Lib.hid hat
    have hwr := zyZ 11 (k : Int) wr
    have hki2 : (k : Int) < (s.size : Int) := by omega
    clear hat hfin
    by_cases hno : (s[k]'hk).toNat = 48 ∧ k + 1 < m
    ·have b48 : (((s[k]'hk).toNat : Int) == 48) = true := by simp [hno.1]
     have bgt : (k : Int) + 1 < (m : Int) := by omega
     have HR := Lib.hid (show Lx.cutNumber k (s.data.toList.drop k) = .bad 11 k by rw [HAT.out, if_pos]; simp [hno.1, hno.2])
     clear hno hUb hU1
     go_wp2_with (first
      | (go_at_call 166; refine hgc.mono ?_; clear hgc; rintro e w' ⟨rfl, hwe⟩; rw [← hwe]; clear hwe)
      | (go_at_call 164; refine hsm.mono ?_; clear hsm; rintro e w' ⟨rfl, hwe⟩; rw [← hwe]; clear hwe)
      | (go_at_call 165; refine hgr.mono ?_; clear hgr; rintro e w' ⟨rfl, hwe⟩; rw [← hwe]; clear hwe)
      | (go_at_call 170; refine hwr.mono ?_; clear hwr; rintro e W3 ⟨rfl, hb3⟩; obtain ⟨⟨a0, a1, a2, a3, a4, a5, a6⟩, ⟨f0, f1, f2, f3, f4, f5, f6⟩, hl3⟩ := zeZ ((hb3.block _ hrl).trans HBLK.out)))
     refine bodyPost_ret (v := .agg #[.int .i64 0, .int .i64 0, .string ⟨#[]⟩, .int .i64 0, .int .i64 0, .int .i64 11, .int .i64 (k : Int)]) (by simp [results, Tryz.results168, go_sem, a0, a1, a2, a3, a4, a5, a6, f0, f1, f2, f3, f4, f5, f6, hl3]) rfl ?_
     rw [HR.out]
     have hbf := Below.chain hb hb3
     refine ⟨rfl, ?_⟩
     repeat (first | (with_reducible exact hbf) | with_reducible refine BSet ?_ (Nat.le_refl _))
    ·have HNO := Lib.hid hno
     by_cases hbig : 9223372036854775807 < U
     ·have bbig : (9223372036854775808 : Int) ≤ (U : Int) := by omega
      have HR := Lib.hid (show Lx.cutNumber k (s.data.toList.drop k) = .bad 11 k by rw [HAT.out, if_pos]; simp [hbig])
      clear hbig hUb hU1
      by_cases h48 : (s[k]'hk).toNat = 48
      ·have b48 : (((s[k]'hk).toNat : Int) == 48) = true := by simp [h48]
       have bgt : ¬ (k : Int) + 1 < (m : Int) := by have := HNO.out; omega
       clear hno h48
       go_wp2_with (first
        | (go_at_call 166; refine hgc.mono ?_; clear hgc; rintro e w' ⟨rfl, hwe⟩; rw [← hwe]; clear hwe)
        | (go_at_call 164; refine hsm.mono ?_; clear hsm; rintro e w' ⟨rfl, hwe⟩; rw [← hwe]; clear hwe)
        | (go_at_call 165; refine hgr.mono ?_; clear hgr; rintro e w' ⟨rfl, hwe⟩; rw [← hwe]; clear hwe)
        | (go_at_call 170; refine hwr.mono ?_; clear hwr; rintro e W3 ⟨rfl, hb3⟩; obtain ⟨⟨a0, a1, a2, a3, a4, a5, a6⟩, ⟨f0, f1, f2, f3, f4, f5, f6⟩, hl3⟩ := zeZ ((hb3.block _ hrl).trans HBLK.out)))
       refine bodyPost_ret (v := .agg #[.int .i64 0, .int .i64 0, .string ⟨#[]⟩, .int .i64 0, .int .i64 0, .int .i64 11, .int .i64 (k : Int)]) (by simp [results, Tryz.results168, go_sem, a0, a1, a2, a3, a4, a5, a6, f0, f1, f2, f3, f4, f5, f6, hl3]) rfl ?_
       rw [HR.out]
       have hbf := Below.chain hb hb3
       refine ⟨rfl, ?_⟩
       repeat (first | (with_reducible exact hbf) | with_reducible refine BSet ?_ (Nat.le_refl _))
      ·have b48 : (((s[k]'hk).toNat : Int) == 48) = false := by simp; omega
       clear hno h48
       go_wp2_with (first
        | (go_at_call 166; refine hgc.mono ?_; clear hgc; rintro e w' ⟨rfl, hwe⟩; rw [← hwe]; clear hwe)
        | (go_at_call 164; refine hsm.mono ?_; clear hsm; rintro e w' ⟨rfl, hwe⟩; rw [← hwe]; clear hwe)
        | (go_at_call 165; refine hgr.mono ?_; clear hgr; rintro e w' ⟨rfl, hwe⟩; rw [← hwe]; clear hwe)
        | (go_at_call 170; refine hwr.mono ?_; clear hwr; rintro e W3 ⟨rfl, hb3⟩; obtain ⟨⟨a0, a1, a2, a3, a4, a5, a6⟩, ⟨f0, f1, f2, f3, f4, f5, f6⟩, hl3⟩ := zeZ ((hb3.block _ hrl).trans HBLK.out)))
       refine bodyPost_ret (v := .agg #[.int .i64 0, .int .i64 0, .string ⟨#[]⟩, .int .i64 0, .int .i64 0, .int .i64 11, .int .i64 (k : Int)]) (by simp [results, Tryz.results168, go_sem, a0, a1, a2, a3, a4, a5, a6, f0, f1, f2, f3, f4, f5, f6, hl3]) rfl ?_
       rw [HR.out]
       have hbf := Below.chain hb hb3
       refine ⟨rfl, ?_⟩
       repeat (first | (with_reducible exact hbf) | with_reducible refine BSet ?_ (Nat.le_refl _))
     ·have bbig : ¬ (9223372036854775808 : Int) ≤ (U : Int) := by omega
      have hno' : ((s[k]'hk).toNat == 48 && decide (k + 1 < m)) = false := by
       rw [← Bool.not_eq_true]
       simp only [Bool.and_eq_true, beq_iff_eq, decide_eq_true_eq]
       exact hno
      have hW : Lx.within (s[m]'hlt) = (((Lx.small (s[m]'hlt) || Lx.great (s[m]'hlt)) || Lx.digit (s[m]'hlt)) || (s[m]'hlt).toNat == 95) := rfl
      rw [HWI.out, Bool.or_false] at hW
      have hsm := zbcZ (s[m]'hlt) wr
      have hgr := zrZ (s[m]'hlt) wr
      have hnx : ((s.data.toList.drop m).head?.map Lx.within).getD false = Lx.within (s[m]'hlt) := by rw [HD0.out]; rfl
      have HWW := Lib.hid hW
      have HNX := Lib.hid hnx
      clear hW hnx hno
      cases hs1 : Lx.small (s[m]'hlt) with
      | true =>
       rw [hs1] at hsm
       have HR := Lib.hid (show Lx.cutNumber k (s.data.toList.drop k) = .bad 11 k by rw [HAT.out, HNX.out, HWW.out, hs1, if_pos]; simp)
       clear hs1 hUb hU1 hno' hbig
       by_cases h48 : (s[k]'hk).toNat = 48
       ·have b48 : (((s[k]'hk).toNat : Int) == 48) = true := by simp [h48]
        have bgt : ¬ (k : Int) + 1 < (m : Int) := by have := HNO.out; omega
        clear h48
        go_wp2_with (first
         | (go_at_call 166; refine hgc.mono ?_; clear hgc; rintro e w' ⟨rfl, hwe⟩; rw [← hwe]; clear hwe)
         | (go_at_call 164; refine hsm.mono ?_; clear hsm; rintro e w' ⟨rfl, hwe⟩; rw [← hwe]; clear hwe)
         | (go_at_call 165; refine hgr.mono ?_; clear hgr; rintro e w' ⟨rfl, hwe⟩; rw [← hwe]; clear hwe)
         | (go_at_call 170; refine hwr.mono ?_; clear hwr; rintro e W3 ⟨rfl, hb3⟩; obtain ⟨⟨a0, a1, a2, a3, a4, a5, a6⟩, ⟨f0, f1, f2, f3, f4, f5, f6⟩, hl3⟩ := zeZ ((hb3.block _ hrl).trans HBLK.out)))
        refine bodyPost_ret (v := .agg #[.int .i64 0, .int .i64 0, .string ⟨#[]⟩, .int .i64 0, .int .i64 0, .int .i64 11, .int .i64 (k : Int)]) (by simp [results, Tryz.results168, go_sem, a0, a1, a2, a3, a4, a5, a6, f0, f1, f2, f3, f4, f5, f6, hl3]) rfl ?_
        rw [HR.out]
        have hbf := Below.chain hb hb3
        refine ⟨rfl, ?_⟩
        repeat (first | (with_reducible exact hbf) | with_reducible refine BSet ?_ (Nat.le_refl _))
       ·have b48 : (((s[k]'hk).toNat : Int) == 48) = false := by simp; omega
        clear h48
        go_wp2_with (first
         | (go_at_call 166; refine hgc.mono ?_; clear hgc; rintro e w' ⟨rfl, hwe⟩; rw [← hwe]; clear hwe)
         | (go_at_call 164; refine hsm.mono ?_; clear hsm; rintro e w' ⟨rfl, hwe⟩; rw [← hwe]; clear hwe)
         | (go_at_call 165; refine hgr.mono ?_; clear hgr; rintro e w' ⟨rfl, hwe⟩; rw [← hwe]; clear hwe)
         | (go_at_call 170; refine hwr.mono ?_; clear hwr; rintro e W3 ⟨rfl, hb3⟩; obtain ⟨⟨a0, a1, a2, a3, a4, a5, a6⟩, ⟨f0, f1, f2, f3, f4, f5, f6⟩, hl3⟩ := zeZ ((hb3.block _ hrl).trans HBLK.out)))
        refine bodyPost_ret (v := .agg #[.int .i64 0, .int .i64 0, .string ⟨#[]⟩, .int .i64 0, .int .i64 0, .int .i64 11, .int .i64 (k : Int)]) (by simp [results, Tryz.results168, go_sem, a0, a1, a2, a3, a4, a5, a6, f0, f1, f2, f3, f4, f5, f6, hl3]) rfl ?_
        rw [HR.out]
        have hbf := Below.chain hb hb3
        refine ⟨rfl, ?_⟩
        repeat (first | (with_reducible exact hbf) | with_reducible refine BSet ?_ (Nat.le_refl _))
      | false =>
       rw [hs1] at hsm
       cases hg1 : Lx.great (s[m]'hlt) with
       | true =>
        rw [hg1] at hgr
        have HR := Lib.hid (show Lx.cutNumber k (s.data.toList.drop k) = .bad 11 k by rw [HAT.out, HNX.out, HWW.out, hg1, if_pos]; simp)
        clear hs1 hg1 hUb hU1 hno' hbig
        by_cases h48 : (s[k]'hk).toNat = 48
        ·have b48 : (((s[k]'hk).toNat : Int) == 48) = true := by simp [h48]
         have bgt : ¬ (k : Int) + 1 < (m : Int) := by have := HNO.out; omega
         clear h48
         go_wp2_with (first
          | (go_at_call 166; refine hgc.mono ?_; clear hgc; rintro e w' ⟨rfl, hwe⟩; rw [← hwe]; clear hwe)
          | (go_at_call 164; refine hsm.mono ?_; clear hsm; rintro e w' ⟨rfl, hwe⟩; rw [← hwe]; clear hwe)
          | (go_at_call 165; refine hgr.mono ?_; clear hgr; rintro e w' ⟨rfl, hwe⟩; rw [← hwe]; clear hwe)
          | (go_at_call 170; refine hwr.mono ?_; clear hwr; rintro e W3 ⟨rfl, hb3⟩; obtain ⟨⟨a0, a1, a2, a3, a4, a5, a6⟩, ⟨f0, f1, f2, f3, f4, f5, f6⟩, hl3⟩ := zeZ ((hb3.block _ hrl).trans HBLK.out)))
         refine bodyPost_ret (v := .agg #[.int .i64 0, .int .i64 0, .string ⟨#[]⟩, .int .i64 0, .int .i64 0, .int .i64 11, .int .i64 (k : Int)]) (by simp [results, Tryz.results168, go_sem, a0, a1, a2, a3, a4, a5, a6, f0, f1, f2, f3, f4, f5, f6, hl3]) rfl ?_
         rw [HR.out]
         have hbf := Below.chain hb hb3
         refine ⟨rfl, ?_⟩
         repeat (first | (with_reducible exact hbf) | with_reducible refine BSet ?_ (Nat.le_refl _))
        ·have b48 : (((s[k]'hk).toNat : Int) == 48) = false := by simp; omega
         clear h48
         go_wp2_with (first
          | (go_at_call 166; refine hgc.mono ?_; clear hgc; rintro e w' ⟨rfl, hwe⟩; rw [← hwe]; clear hwe)
          | (go_at_call 164; refine hsm.mono ?_; clear hsm; rintro e w' ⟨rfl, hwe⟩; rw [← hwe]; clear hwe)
          | (go_at_call 165; refine hgr.mono ?_; clear hgr; rintro e w' ⟨rfl, hwe⟩; rw [← hwe]; clear hwe)
          | (go_at_call 170; refine hwr.mono ?_; clear hwr; rintro e W3 ⟨rfl, hb3⟩; obtain ⟨⟨a0, a1, a2, a3, a4, a5, a6⟩, ⟨f0, f1, f2, f3, f4, f5, f6⟩, hl3⟩ := zeZ ((hb3.block _ hrl).trans HBLK.out)))
         refine bodyPost_ret (v := .agg #[.int .i64 0, .int .i64 0, .string ⟨#[]⟩, .int .i64 0, .int .i64 0, .int .i64 11, .int .i64 (k : Int)]) (by simp [results, Tryz.results168, go_sem, a0, a1, a2, a3, a4, a5, a6, f0, f1, f2, f3, f4, f5, f6, hl3]) rfl ?_
         rw [HR.out]
         have hbf := Below.chain hb hb3
         refine ⟨rfl, ?_⟩
         repeat (first | (with_reducible exact hbf) | with_reducible refine BSet ?_ (Nat.le_refl _))
       | false =>
        rw [hg1] at hgr
        by_cases h95 : (s[m]'hlt).toNat = 95
        ·have b95 : (((s[m]'hlt).toNat : Int) == 95) = true := by simp [h95]
         have HR := Lib.hid (show Lx.cutNumber k (s.data.toList.drop k) = .bad 11 k by rw [HAT.out, HNX.out, HWW.out, h95, if_pos]; simp)
         clear hs1 hg1 hUb hU1 hno' hbig h95
         by_cases h48 : (s[k]'hk).toNat = 48
         ·have b48 : (((s[k]'hk).toNat : Int) == 48) = true := by simp [h48]
          have bgt : ¬ (k : Int) + 1 < (m : Int) := by have := HNO.out; omega
          clear h48
          go_wp2_with (first
           | (go_at_call 166; refine hgc.mono ?_; clear hgc; rintro e w' ⟨rfl, hwe⟩; rw [← hwe]; clear hwe)
           | (go_at_call 164; refine hsm.mono ?_; clear hsm; rintro e w' ⟨rfl, hwe⟩; rw [← hwe]; clear hwe)
           | (go_at_call 165; refine hgr.mono ?_; clear hgr; rintro e w' ⟨rfl, hwe⟩; rw [← hwe]; clear hwe)
           | (go_at_call 170; refine hwr.mono ?_; clear hwr; rintro e W3 ⟨rfl, hb3⟩; obtain ⟨⟨a0, a1, a2, a3, a4, a5, a6⟩, ⟨f0, f1, f2, f3, f4, f5, f6⟩, hl3⟩ := zeZ ((hb3.block _ hrl).trans HBLK.out)))
          refine bodyPost_ret (v := .agg #[.int .i64 0, .int .i64 0, .string ⟨#[]⟩, .int .i64 0, .int .i64 0, .int .i64 11, .int .i64 (k : Int)]) (by simp [results, Tryz.results168, go_sem, a0, a1, a2, a3, a4, a5, a6, f0, f1, f2, f3, f4, f5, f6, hl3]) rfl ?_
          rw [HR.out]
          have hbf := Below.chain hb hb3
          refine ⟨rfl, ?_⟩
          repeat (first | (with_reducible exact hbf) | with_reducible refine BSet ?_ (Nat.le_refl _))
         ·have b48 : (((s[k]'hk).toNat : Int) == 48) = false := by simp; omega
          clear h48
          go_wp2_with (first
           | (go_at_call 166; refine hgc.mono ?_; clear hgc; rintro e w' ⟨rfl, hwe⟩; rw [← hwe]; clear hwe)
           | (go_at_call 164; refine hsm.mono ?_; clear hsm; rintro e w' ⟨rfl, hwe⟩; rw [← hwe]; clear hwe)
           | (go_at_call 165; refine hgr.mono ?_; clear hgr; rintro e w' ⟨rfl, hwe⟩; rw [← hwe]; clear hwe)
           | (go_at_call 170; refine hwr.mono ?_; clear hwr; rintro e W3 ⟨rfl, hb3⟩; obtain ⟨⟨a0, a1, a2, a3, a4, a5, a6⟩, ⟨f0, f1, f2, f3, f4, f5, f6⟩, hl3⟩ := zeZ ((hb3.block _ hrl).trans HBLK.out)))
          refine bodyPost_ret (v := .agg #[.int .i64 0, .int .i64 0, .string ⟨#[]⟩, .int .i64 0, .int .i64 0, .int .i64 11, .int .i64 (k : Int)]) (by simp [results, Tryz.results168, go_sem, a0, a1, a2, a3, a4, a5, a6, f0, f1, f2, f3, f4, f5, f6, hl3]) rfl ?_
          rw [HR.out]
          have hbf := Below.chain hb hb3
          refine ⟨rfl, ?_⟩
          repeat (first | (with_reducible exact hbf) | with_reducible refine BSet ?_ (Nat.le_refl _))
        ·have b95 : (((s[m]'hlt).toNat : Int) == 95) = false := by simp; omega
         have HR := Lib.hid (show Lx.cutNumber k (s.data.toList.drop k) = .ok ⟨k, 4, [], U⟩ (m - k) by
          have h9 : ((s[m]'hlt).toNat == 95) = false := by simpa using h95
          rw [HAT.out, HNX.out, HWW.out, hs1, hg1, h9, hno', decide_eq_false hbig]
          rfl)
         clear hs1 hg1 hno' hbig h95
         by_cases h48 : (s[k]'hk).toNat = 48
         ·have b48 : (((s[k]'hk).toNat : Int) == 48) = true := by simp [h48]
          have bgt : ¬ (k : Int) + 1 < (m : Int) := by have := HNO.out; omega
          clear h48
          obtain ⟨⟨p0, p1, p2, p3, p4, p5, p6⟩, ⟨g0, g1, g2, g3, g4, g5, g6⟩, hl0⟩ := zeZ HBLK.out
          have HUM := Lib.hid (show IntKind.i64.wrap (U : Int) = (U : Int) by rw [IntKind.wrap_i64]; omega)
          have HDE2 := Lib.hid (decide_eq_false bgt)
          have HDEC := Lib.hid (decide_eq_false bbig)
          clear hUb hU1
          go_upto_if 74 with (first
           | (go_at_call 166; refine hgc.mono ?_; clear hgc; rintro e w' ⟨rfl, hwe⟩; rw [← hwe]; clear hwe)
           | (go_at_call 164; refine hsm.mono ?_; clear hsm; rintro e w' ⟨rfl, hwe⟩; rw [← hwe]; clear hwe)
           | (go_at_call 165; refine hgr.mono ?_; clear hgr; rintro e w' ⟨rfl, hwe⟩; rw [← hwe]; clear hwe))
          simp only [HDEC.out, HDE2.out, Bool.or_false]
          clear bbig bgt
          have hUm := HUM.out
          go_wp2_with fail
          refine bodyPost_ret (v := .agg #[.int .i64 (k : Int), .int .i64 4, .string ⟨#[]⟩, .int .i64 (U : Int), .int .i64 (m : Int), .int .i64 0, .int .i64 0]) (by simp [results, Tryz.results168, go_sem, p0, p1, p2, p3, p4, p5, p6, g0, g1, g2, g3, g4, g5, g6, hl0]) rfl ?_
          rw [HR.out]
          refine ⟨?_, ?_⟩
          ·simp only [cutV]
           rw [show k + (m - k) = m by omega]
          ·repeat (first | (with_reducible exact hb) | (with_reducible refine BSet ?_ (Nat.le_refl _)) | (with_reducible refine BSet ?_ hb.size) | (with_reducible refine BAlloc ?_))
         ·have b48 : (((s[k]'hk).toNat : Int) == 48) = false := by simp; omega
          clear h48
          obtain ⟨⟨p0, p1, p2, p3, p4, p5, p6⟩, ⟨g0, g1, g2, g3, g4, g5, g6⟩, hl0⟩ := zeZ HBLK.out
          have HUM := Lib.hid (show IntKind.i64.wrap (U : Int) = (U : Int) by rw [IntKind.wrap_i64]; omega)
          have HDEC := Lib.hid (decide_eq_false bbig)
          clear hUb hU1
          go_upto_if 74 with (first
           | (go_at_call 166; refine hgc.mono ?_; clear hgc; rintro e w' ⟨rfl, hwe⟩; rw [← hwe]; clear hwe)
           | (go_at_call 164; refine hsm.mono ?_; clear hsm; rintro e w' ⟨rfl, hwe⟩; rw [← hwe]; clear hwe)
           | (go_at_call 165; refine hgr.mono ?_; clear hgr; rintro e w' ⟨rfl, hwe⟩; rw [← hwe]; clear hwe))
          simp only [HDEC.out]
          clear bbig
          have hUm := HUM.out
          go_wp2_with fail
          refine bodyPost_ret (v := .agg #[.int .i64 (k : Int), .int .i64 4, .string ⟨#[]⟩, .int .i64 (U : Int), .int .i64 (m : Int), .int .i64 0, .int .i64 0]) (by simp [results, Tryz.results168, go_sem, p0, p1, p2, p3, p4, p5, p6, g0, g1, g2, g3, g4, g5, g6, hl0]) rfl ?_
          rw [HR.out]
          refine ⟨?_, ?_⟩
          ·simp only [cutV]
           rw [show k + (m - k) = m by omega]
          ·repeat (first | (with_reducible exact hb) | (with_reducible refine BSet ?_ (Nat.le_refl _)) | (with_reducible refine BSet ?_ hb.size) | (with_reducible refine BAlloc ?_))
  ·have hi : ¬ (m : Int) < (s.size : Int) := by omega
   have hfin : (s.data.toList.drop k).takeWhile Lx.digit = (s.data.toList.drop k).take (m - k) := by
    have e := HE.out
    rw [List.drop_eq_nil_of_le (show s.data.toList.length ≤ m by rw [zgZ]; omega)] at e
    simpa using e
   have hkm' : k < m := by
    rcases Nat.lt_or_ge k m with h | h
    ·exact h
    ·exfalso
     have e := hfin
     rw [byte_at s k hk, List.takeWhile_cons, if_pos hl, show m - k = 0 from by omega] at e
     simp at e
   have hat := zfxZ hkm' hm rfl hfin
   rw [← HU.out] at hat
   have HAT := Lib.hid hat
   have hwr := zyZ 11 (k : Int) wr
   have hki2 : (k : Int) < (s.size : Int) := by omega
   clear hat hfin
   by_cases hno : (s[k]'hk).toNat = 48 ∧ k + 1 < m
   ·have b48 : (((s[k]'hk).toNat : Int) == 48) = true := by simp [hno.1]
    have bgt : (k : Int) + 1 < (m : Int) := by omega
    have HR := Lib.hid (show Lx.cutNumber k (s.data.toList.drop k) = .bad 11 k by rw [HAT.out, if_pos]; simp [hno.1, hno.2])
    clear hno hUb hU1
    go_wp2_with (first
     | (go_at_call 166; refine hgc.mono ?_; clear hgc; rintro e w' ⟨rfl, hwe⟩; rw [← hwe]; clear hwe)
     | (go_at_call 164; refine hsm.mono ?_; clear hsm; rintro e w' ⟨rfl, hwe⟩; rw [← hwe]; clear hwe)
     | (go_at_call 165; refine hgr.mono ?_; clear hgr; rintro e w' ⟨rfl, hwe⟩; rw [← hwe]; clear hwe)
     | (go_at_call 170; refine hwr.mono ?_; clear hwr; rintro e W3 ⟨rfl, hb3⟩; obtain ⟨⟨a0, a1, a2, a3, a4, a5, a6⟩, ⟨f0, f1, f2, f3, f4, f5, f6⟩, hl3⟩ := zeZ ((hb3.block _ hrl).trans HBLK.out)))
    refine bodyPost_ret (v := .agg #[.int .i64 0, .int .i64 0, .string ⟨#[]⟩, .int .i64 0, .int .i64 0, .int .i64 11, .int .i64 (k : Int)]) (by simp [results, Tryz.results168, go_sem, a0, a1, a2, a3, a4, a5, a6, f0, f1, f2, f3, f4, f5, f6, hl3]) rfl ?_
    rw [HR.out]
    have hbf := Below.chain hb hb3
    refine ⟨rfl, ?_⟩
    repeat (first | (with_reducible exact hbf) | with_reducible refine BSet ?_ (Nat.le_refl _))
   ·have HNO := Lib.hid hno
    by_cases hbig : 9223372036854775807 < U
    ·have bbig : (9223372036854775808 : Int) ≤ (U : Int) := by omega
     have HR := Lib.hid (show Lx.cutNumber k (s.data.toList.drop k) = .bad 11 k by rw [HAT.out, if_pos]; simp [hbig])
     clear hbig hUb hU1
     by_cases h48 : (s[k]'hk).toNat = 48
     ·have b48 : (((s[k]'hk).toNat : Int) == 48) = true := by simp [h48]
      have bgt : ¬ (k : Int) + 1 < (m : Int) := by have := HNO.out; omega
      clear hno h48
      go_wp2_with (first
       | (go_at_call 166; refine hgc.mono ?_; clear hgc; rintro e w' ⟨rfl, hwe⟩; rw [← hwe]; clear hwe)
       | (go_at_call 164; refine hsm.mono ?_; clear hsm; rintro e w' ⟨rfl, hwe⟩; rw [← hwe]; clear hwe)
       | (go_at_call 165; refine hgr.mono ?_; clear hgr; rintro e w' ⟨rfl, hwe⟩; rw [← hwe]; clear hwe)
       | (go_at_call 170; refine hwr.mono ?_; clear hwr; rintro e W3 ⟨rfl, hb3⟩; obtain ⟨⟨a0, a1, a2, a3, a4, a5, a6⟩, ⟨f0, f1, f2, f3, f4, f5, f6⟩, hl3⟩ := zeZ ((hb3.block _ hrl).trans HBLK.out)))
      refine bodyPost_ret (v := .agg #[.int .i64 0, .int .i64 0, .string ⟨#[]⟩, .int .i64 0, .int .i64 0, .int .i64 11, .int .i64 (k : Int)]) (by simp [results, Tryz.results168, go_sem, a0, a1, a2, a3, a4, a5, a6, f0, f1, f2, f3, f4, f5, f6, hl3]) rfl ?_
      rw [HR.out]
      have hbf := Below.chain hb hb3
      refine ⟨rfl, ?_⟩
      repeat (first | (with_reducible exact hbf) | with_reducible refine BSet ?_ (Nat.le_refl _))
     ·have b48 : (((s[k]'hk).toNat : Int) == 48) = false := by simp; omega
      clear hno h48
      go_wp2_with (first
       | (go_at_call 166; refine hgc.mono ?_; clear hgc; rintro e w' ⟨rfl, hwe⟩; rw [← hwe]; clear hwe)
       | (go_at_call 164; refine hsm.mono ?_; clear hsm; rintro e w' ⟨rfl, hwe⟩; rw [← hwe]; clear hwe)
       | (go_at_call 165; refine hgr.mono ?_; clear hgr; rintro e w' ⟨rfl, hwe⟩; rw [← hwe]; clear hwe)
       | (go_at_call 170; refine hwr.mono ?_; clear hwr; rintro e W3 ⟨rfl, hb3⟩; obtain ⟨⟨a0, a1, a2, a3, a4, a5, a6⟩, ⟨f0, f1, f2, f3, f4, f5, f6⟩, hl3⟩ := zeZ ((hb3.block _ hrl).trans HBLK.out)))
      refine bodyPost_ret (v := .agg #[.int .i64 0, .int .i64 0, .string ⟨#[]⟩, .int .i64 0, .int .i64 0, .int .i64 11, .int .i64 (k : Int)]) (by simp [results, Tryz.results168, go_sem, a0, a1, a2, a3, a4, a5, a6, f0, f1, f2, f3, f4, f5, f6, hl3]) rfl ?_
      rw [HR.out]
      have hbf := Below.chain hb hb3
      refine ⟨rfl, ?_⟩
      repeat (first | (with_reducible exact hbf) | with_reducible refine BSet ?_ (Nat.le_refl _))
    ·have bbig : ¬ (9223372036854775808 : Int) ≤ (U : Int) := by omega
     have hno' : ((s[k]'hk).toNat == 48 && decide (k + 1 < m)) = false := by
      rw [← Bool.not_eq_true]
      simp only [Bool.and_eq_true, beq_iff_eq, decide_eq_true_eq]
      exact hno
     have HR := Lib.hid (show Lx.cutNumber k (s.data.toList.drop k) = .ok ⟨k, 4, [], U⟩ (m - k) by
      have hd0 : s.data.toList.drop m = [] := List.drop_eq_nil_of_le (by rw [zgZ]; omega)
      rw [HAT.out, hd0, hno', decide_eq_false hbig]
      rfl)
     clear hno hno' hbig
     by_cases h48 : (s[k]'hk).toNat = 48
     ·have b48 : (((s[k]'hk).toNat : Int) == 48) = true := by simp [h48]
      have bgt : ¬ (k : Int) + 1 < (m : Int) := by have := HNO.out; omega
      clear h48
      obtain ⟨⟨p0, p1, p2, p3, p4, p5, p6⟩, ⟨g0, g1, g2, g3, g4, g5, g6⟩, hl0⟩ := zeZ HBLK.out
      have hUm : IntKind.i64.wrap (U : Int) = (U : Int) := by rw [IntKind.wrap_i64]; omega
      clear hUb hU1
      go_wp2_with (first
       | (go_at_call 166; refine hgc.mono ?_; clear hgc; rintro e w' ⟨rfl, hwe⟩; rw [← hwe]; clear hwe)
       | (go_at_call 164; refine hsm.mono ?_; clear hsm; rintro e w' ⟨rfl, hwe⟩; rw [← hwe]; clear hwe)
       | (go_at_call 165; refine hgr.mono ?_; clear hgr; rintro e w' ⟨rfl, hwe⟩; rw [← hwe]; clear hwe))
      refine bodyPost_ret (v := .agg #[.int .i64 (k : Int), .int .i64 4, .string ⟨#[]⟩, .int .i64 (U : Int), .int .i64 (m : Int), .int .i64 0, .int .i64 0]) (by simp [results, Tryz.results168, go_sem, p0, p1, p2, p3, p4, p5, p6, g0, g1, g2, g3, g4, g5, g6, hl0]) rfl ?_
      rw [HR.out]
      refine ⟨?_, ?_⟩
      ·simp only [cutV]
       rw [show k + (m - k) = m by omega]
      ·repeat (first | (with_reducible exact hb) | (with_reducible refine BSet ?_ (Nat.le_refl _)) | (with_reducible refine BSet ?_ hb.size) | (with_reducible refine BAlloc ?_))
     ·have b48 : (((s[k]'hk).toNat : Int) == 48) = false := by simp; omega
      clear h48
      obtain ⟨⟨p0, p1, p2, p3, p4, p5, p6⟩, ⟨g0, g1, g2, g3, g4, g5, g6⟩, hl0⟩ := zeZ HBLK.out
      have hUm : IntKind.i64.wrap (U : Int) = (U : Int) := by rw [IntKind.wrap_i64]; omega
      clear hUb hU1
      go_wp2_with (first
       | (go_at_call 166; refine hgc.mono ?_; clear hgc; rintro e w' ⟨rfl, hwe⟩; rw [← hwe]; clear hwe)
       | (go_at_call 164; refine hsm.mono ?_; clear hsm; rintro e w' ⟨rfl, hwe⟩; rw [← hwe]; clear hwe)
       | (go_at_call 165; refine hgr.mono ?_; clear hgr; rintro e w' ⟨rfl, hwe⟩; rw [← hwe]; clear hwe))
      refine bodyPost_ret (v := .agg #[.int .i64 (k : Int), .int .i64 4, .string ⟨#[]⟩, .int .i64 (U : Int), .int .i64 (m : Int), .int .i64 0, .int .i64 0]) (by simp [results, Tryz.results168, go_sem, p0, p1, p2, p3, p4, p5, p6, g0, g1, g2, g3, g4, g5, g6, hl0]) rfl ?_
      rw [HR.out]
      refine ⟨?_, ?_⟩
      ·simp only [cutV]
       rw [show k + (m - k) = m by omega]
      ·repeat (first | (with_reducible exact hb) | (with_reducible refine BSet ?_ (Nat.le_refl _)) | (with_reducible refine BSet ?_ hb.size) | (with_reducible refine BAlloc ?_))
end Go.Proofs.YtdncljdfmdgdaaaGreatDoor
