/-
  coilref1.quoted.
-/
/-
 coilref1.quoted.
 coilref1.cut.
 Plain laws: what coilref1.One answers is what lex writes; Lx.toks, round by round, as coilref1.Tokens goes.
 Tokens that stay.
 coilref1.Tokens.
 Plain laws about a wrong place's reason.
-/
import Derived.Test.YtdncljdfmdgdaaaGreatDoorM25
import Derived.Test.YtdncljdfmdgdaaaGreatDoorM6
import Derived.OwnWalk
import Derived.Test.YtdncljdfmdgdaaaGreatDoorM19
import Derived.Test.YtdncljdfmdgdaaaGreatDoorM22
import Derived.Test.YtdncljdfmdgdaaaGreatDoorM10
namespace Go.Proofs.YtdncljdfmdgdaaaGreatDoor
open Go.RowKit
set_option linter.unusedSimpArgs false
set_option linter.unusedVariables false
structure QW (w W : World) : Prop where
 b : Below w.heap.size w W
 z : W.heap[w.heap.size]? = some (.cells #[.int .i64 0, .int .i64 0, .string ⟨#[]⟩, .int .i64 0, .int .i64 0, .int .i64 0, .int .i64 0] 193 (0, 0))
theorem QW.row {w W W' : World} {row : Option Nat} (h : QW w W) (hg : W.grownBy W' row) (hr : ∀ g, row = some g → w.heap.size + 1 ≤ g) : QW w W' :=
 ⟨Below.turn h.b hg (fun r e => by have := hr r e; omega), (hg.block _ (zaZ h.z) (fun e => by have := hr _ e.symm; omega)).trans h.z⟩
theorem QW.row2 {w W W' : World} {row : Option Nat} {o : Obj} (h : QW w W) (hg : (W.alloc o).grownBy W' row) (hr : ∀ g, row = some g → w.heap.size + 1 ≤ g) : QW w W' :=
 (h.row (World.grownBy_alloc W o none) (fun g e => nomatch e)).row hg hr
theorem zhnZ {c : UInt8} (h : plainB c = true) : ¬ c.toNat = 34 ∧ ¬ c.toNat = 92 ∧ ¬ (c.toNat < 32 ∨ 126 < c.toNat) := by
 simp only [plainB, Bool.and_eq_true, decide_eq_true_eq, Bool.not_eq_true', beq_eq_false_iff_ne] at h
 exact ⟨h.2.2.1, h.2.2.2, by omega⟩
theorem zghZ {c : UInt8} (h : plainB c = false) (h34 : ¬ c.toNat = 34) (h92 : ¬ c.toNat = 92) : c.toNat < 32 ∨ 126 < c.toNat := by
 by_cases hb : c.toNat < 32 ∨ 126 < c.toNat
 ·exact hb
 ·exfalso
  have : plainB c = true := by
   simp only [plainB, Bool.and_eq_true, decide_eq_true_eq, Bool.not_eq_true', beq_eq_false_iff_ne]
   exact ⟨by omega, by omega, h34, h92⟩
  rw [h] at this
  cases this
set_option maxRecDepth 100000 in
set_option maxHeartbeats 4000000 in
theorem zklZ (s : ByteArray) (k : Nat) (w : World) (hk : k < s.size) (hs : s.size ≤ 140737488351232) :
  Calls Tryz.prog 169 #[.string s, .int .i64 (k : Int)] w fun e w' => e = .returned (cutV k (Lx.quoted k (s.data.toList.drop (k + 1)) [] 1)) ∧ Below w.heap.size w w' := by
 have hsi : (s.size : Int) ≤ 140737488351232 := by omega
 have hki : (k : Int) < (s.size : Int) := by omega
 have hk0 : (0 : Int) ≤ (k : Int) := by omega
 obtain ⟨i0, hi0, hz0, hz1, hz2⟩ := info_parts infoU8
 go_enter Tryz.func169, Tryz.ntmps169
 go_upto_region 1 with fail
 have hblk := heap_alloc_new w (.cells #[.int .i64 0, .int .i64 0, .string ⟨#[]⟩, .int .i64 0, .int .i64 0, .int .i64 0, .int .i64 0] 193)
 have hb := zdZ (World.grownBy_alloc w (.cells #[.int .i64 0, .int .i64 0, .string ⟨#[]⟩, .int .i64 0, .int .i64 0, .int .i64 0, .int .i64 0] 193) none)
 have hsz : (w.alloc (.cells #[.int .i64 0, .int .i64 0, .string ⟨#[]⟩, .int .i64 0, .int .i64 0, .int .i64 0, .int .i64 0] 193)).heap.size = w.heap.size + 1 := by rw [World.size_alloc]
 obtain ⟨W1, hW1⟩ : ∃ W1, w.alloc (.cells #[.int .i64 0, .int .i64 0, .string ⟨#[]⟩, .int .i64 0, .int .i64 0, .int .i64 0, .int .i64 0] 193) = W1 := ⟨_, rfl⟩
 rw [hW1] at hblk hb hsz ⊢
 have HQ1 := Lib.hid (QW.mk hb hblk)
 have hrl := zaZ hblk
 clear hblk hW1 hb
 go_wp2_with (at_make; refine wpList_make_own _ rfl _ _ 98 rfl (w.heap.size + 1) 5 i0 (.int .u8 0) 1 Tryz.underlying98 hi0 hz0 hz1 .i64 .i64 _ 0 rfl rfl rfl (by rw [hz2]; omega) (by unfold maxLen; omega) (by rw [hsz]; exact Nat.le_refl _) ?_; intro W2 hown hgrow)
 have HQ2 := Lib.hid (HQ1.out.row hgrow (fun g e => nomatch e))
 rw [hsz] at hown
 have HO2 : Hid (OwnB W2 (w.heap.size + 1) (.slice (some ⟨w.heap.size + 1, 0, none⟩) 0 0) []) := Lib.hid hown
 clear hown hgrow HQ1 hi0 hz0 hz1 hz2 hsz
 go_loopg [5, 6] (s.size - (k + 1)) (fun n v u wr => ∃ (m : Nat) (l : List UInt8), n = s.size - m ∧ u = .int .i64 (m : Int) ∧ k + 1 ≤ m ∧ m ≤ s.size ∧ QW w wr ∧ OwnB wr (w.heap.size + 1) v l ∧ l.length ≤ m ∧
  Lx.quoted k (s.data.toList.drop m) l (m - k) = Lx.quoted k (s.data.toList.drop (k + 1)) [] 1)
 case atStart => exact ⟨k + 1, [], rfl, rfl, Nat.le_refl _, by omega, HQ2.out, HO2.out, by simp, by rw [show k + 1 - k = 1 from by omega]⟩
 case round =>
  obtain ⟨m, l, hn, rfl, hkm, hm, hW, hO, hl, he⟩ := hrel
  have HQW := Lib.hid hW
  have HB := Lib.hid hW.b
  have HZ := Lib.hid hW.z
  have hrl := zaZ hW.z
  have HO := Lib.hid hO
  have HE := Lib.hid he
  have HN := Lib.hid hn
  obtain ⟨A0, cap0, hv⟩ := hO.slice
  clear he hn hW hO
  subst hv
  have m0 : (0 : Int) ≤ (m : Int) := by omega
  have hmi : (m : Int) ≤ (s.size : Int) := by omega
  by_cases hlt : m < s.size
  ·have hi : (m : Int) < (s.size : Int) := by omega
   have HD := Lib.hid (byte_at s m hlt)
   have hpl := zmzZ (s[m]'hlt) wr
   by_cases h34 : (s[m]'hlt).toNat = 34
   ·have b34 := u8t _ 34 h34
    have bsz : ((m : Int) == (s.size : Int)) = false := by simp; omega
    have H34 := Lib.hid h34
    clear h34
    have HQ : Hid (Lx.quoted k (s.data.toList.drop (k + 1)) [] 1 = .ok ⟨k, 5, l, 0⟩ (m + 1 - k)) := HE.out.symm.trans (by
     rw [HD.out, zewZ H34.out, show m - k + 1 = m + 1 - k from by omega])
    obtain ⟨⟨p0, p1, p2, p3, p4, p5, p6⟩, ⟨g0, g1, g2, g3, g4, g5, g6⟩, hl0⟩ := zeZ HZ.out
    have hs1 : (convert 98 9 (.slice A0 l.length cap0)).run Tryz.prog wr = .ok (.string ⟨l.toArray⟩) wr := strByte HO.out
    go_wp2_with fail
    refine bodyPost_ret (v := .agg #[.int .i64 (k : Int), .int .i64 5, .string ⟨l.toArray⟩, .int .i64 0, .int .i64 ((m : Int) + 1), .int .i64 0, .int .i64 0]) (by simp [results, Tryz.results169, go_sem, p0, p1, p2, p3, p4, p5, p6, g0, g1, g2, g3, g4, g5, g6, hl0]) rfl ?_
    rw [HQ.out]
    have hbf := HB.out
    refine ⟨?_, ?_⟩
    ·simp only [cutV]
     rw [show k + (m + 1 - k) = m + 1 by omega]
     rfl
    ·repeat (first | (with_reducible exact hbf) | (with_reducible refine BSet ?_ (Nat.le_refl _)) | (with_reducible refine BSet ?_ hbf.size) | (with_reducible refine BAlloc ?_))
   ·have b34 := u8f _ 34 h34
    have H34 := Lib.hid h34
    clear h34
    cases hp : plainB (s[m]'hlt) with
    | true =>
     rw [hp] at hpl
     have HP := Lib.hid (zhnZ hp)
     clear hp
     have HQ : Hid (Lx.quoted k (s.data.toList.drop (m + 1)) (l ++ [s[m]'hlt]) (m + 1 - k) = Lx.quoted k (s.data.toList.drop (k + 1)) [] 1) := by
      have e := HE.out
      rw [HD.out, zdkZ HP.out.1 HP.out.2.1 HP.out.2.2, show m - k + 1 = m + 1 - k from by omega] at e
      exact e
     go_wp2_with (first
      | (go_at_call 182; refine hpl.mono ?_; clear hpl; rintro e w' ⟨rfl, hwe⟩; rw [← hwe]; clear hwe)
      | (at_builtin; refine appByte (w.heap.size + 1) rfl (.tmp 25) (.tmp 29) rfl _ l (s[m]'hlt) rfl rfl HO.out (by omega) (by omega) ?_; intro v1 w1 hown hgr; have hQ1 := HQW.out.row2 hgr (fun g hg => OwnB.base HO.out g hg)))
     have HO1 := Lib.hid hown
     have HQ1 := Lib.hid hQ1
     clear hown hgr hQ1
     go_roundg (s.size - (m + 1))
     case measure => have := HN.out; omega
     case rel => exact ⟨m + 1, _, rfl, rfl, by omega, by omega, HQ1.out, HO1.out, by simp; omega, HQ.out⟩
    | false =>
     rw [hp] at hpl
     by_cases h92 : (s[m]'hlt).toNat = 92
     ·have b92 := u8t _ 92 h92
      have H92 := Lib.hid h92
      clear h92 hp
      by_cases hend : m + 1 = s.size
      ·have bend : ((m : Int) + 1 == (s.size : Int)) = true := by simp; omega
       have HEN := Lib.hid hend
       clear hend
       have HQ : Hid (Lx.quoted k (s.data.toList.drop (k + 1)) [] 1 = .bad 12 (m + 1)) := HE.out.symm.trans (by
        rw [HD.out, List.drop_eq_nil_of_le (i := m + 1) (by rw [zgZ, HEN.out]; exact Nat.le_refl _), zexZ H92.out, show k + (m - k) + 1 = m + 1 from by omega])
       have hwr := zyZ 12 ((m : Int) + 1) wr
       have HX := HZ.out
       go_wp2_with (first
        | (go_at_call 182; refine hpl.mono ?_; clear hpl; rintro e w' ⟨rfl, hwe⟩; rw [← hwe]; clear hwe)
        | (go_at_call 170; refine hwr.mono ?_; clear hwr; rintro e W3 ⟨rfl, hb3⟩; obtain ⟨⟨a0, a1, a2, a3, a4, a5, a6⟩, ⟨f0, f1, f2, f3, f4, f5, f6⟩, hl3⟩ := zeZ ((hb3.block _ hrl).trans HX)))
       refine bodyPost_ret (v := .agg #[.int .i64 0, .int .i64 0, .string ⟨#[]⟩, .int .i64 0, .int .i64 0, .int .i64 12, .int .i64 ((m : Int) + 1)]) (by simp [results, Tryz.results169, go_sem, a0, a1, a2, a3, a4, a5, a6, f0, f1, f2, f3, f4, f5, f6, hl3]) rfl ?_
       rw [HQ.out]
       have hbf := Below.chain HB.out hb3
       refine ⟨rfl, ?_⟩
       repeat (first | (with_reducible exact hbf) | with_reducible refine BSet ?_ (Nat.le_refl _))
      ·have bend : ((m : Int) + 1 == (s.size : Int)) = false := by simp; omega
       have hlt2 : m + 1 < s.size := by omega
       have hi2 : (m : Int) + 1 < (s.size : Int) := by omega
       have hi20 : (0 : Int) ≤ (m : Int) + 1 := by omega
       have HD2 := Lib.hid (byte_at s (m + 1) hlt2)
       have HES : Hid (Lx.quoted k (s.data.toList.drop (k + 1)) [] 1 = if (s[m + 1]'hlt2).toNat == 110 then Lx.quoted k (s.data.toList.drop (m + 1 + 1)) (l ++ [10]) (m - k + 2) else if (s[m + 1]'hlt2).toNat == 34 || (s[m + 1]'hlt2).toNat == 92 then Lx.quoted k (s.data.toList.drop (m + 1 + 1)) (l ++ [s[m + 1]'hlt2]) (m - k + 2) else .bad 12 (k + (m - k) + 1)) :=
        HE.out.symm.trans (by rw [HD.out, HD2.out]; exact zvZ H92.out)
       clear hend
       by_cases h110 : (s[m + 1]'hlt2).toNat = 110
       ·have c110 := u8t _ 110 h110
        have HQ : Hid (Lx.quoted k (s.data.toList.drop (m + 2)) (l ++ [10]) (m + 2 - k) = Lx.quoted k (s.data.toList.drop (k + 1)) [] 1) := by
         have e := HES.out
         rw [if_pos (by simp [h110]), show m - k + 2 = m + 2 - k from by omega] at e
         exact e.symm
        clear h110
        go_wp2_with (first
         | (go_at_call 182; refine hpl.mono ?_; clear hpl; rintro e w' ⟨rfl, hwe⟩; rw [← hwe]; clear hwe)
         | (at_builtin; refine appByte (w.heap.size + 1) rfl (.tmp 54) (.tmp 55) rfl _ l 10 rfl rfl HO.out (by omega) (by omega) ?_; intro v1 w1 hown hgr; have hQ1 := HQW.out.row2 hgr (fun g hg => OwnB.base HO.out g hg)))
        have HO1 := Lib.hid hown
        have HQ1 := Lib.hid hQ1
        clear hown hgr hQ1
        go_roundg (s.size - (m + 2))
        case measure => have := HN.out; omega
        case rel => exact ⟨m + 2, _, rfl, rfl, by omega, by omega, HQ1.out, HO1.out, by simp; omega, HQ.out⟩
       ·have c110 := u8f _ 110 h110
        by_cases hq : (s[m + 1]'hlt2).toNat = 34 ∨ (s[m + 1]'hlt2).toNat = 92
        ·have HQ : Hid (Lx.quoted k (s.data.toList.drop (m + 2)) (l ++ [s[m + 1]'hlt2]) (m + 2 - k) = Lx.quoted k (s.data.toList.drop (k + 1)) [] 1) := by
          have e := HES.out
          rw [if_neg (by simpa using h110), if_pos (by simpa using hq), show m - k + 2 = m + 2 - k from by omega] at e
          exact e.symm
         clear h110
         by_cases h34b : (s[m + 1]'hlt2).toNat = 34
         ·have c34 := u8t _ 34 h34b
          clear h34b hq
          go_wp2_with (first
           | (go_at_call 182; refine hpl.mono ?_; clear hpl; rintro e w' ⟨rfl, hwe⟩; rw [← hwe]; clear hwe)
           | (at_builtin; refine appByte (w.heap.size + 1) rfl (.tmp 60) (.tmp 64) rfl _ l (s[m + 1]'hlt2) rfl rfl HO.out (by omega) (by omega) ?_; intro v1 w1 hown hgr; have hQ1 := HQW.out.row2 hgr (fun g hg => OwnB.base HO.out g hg)))
          have HO1 := Lib.hid hown
          have HQ1 := Lib.hid hQ1
          clear hown hgr hQ1
          go_roundg (s.size - (m + 2))
          case measure => have := HN.out; omega
          case rel => exact ⟨m + 2, _, rfl, rfl, by omega, by omega, HQ1.out, HO1.out, by simp; omega, HQ.out⟩
         ·have c34 := u8f _ 34 h34b
          have c92 := u8t _ 92 (by omega : (s[m + 1]'hlt2).toNat = 92)
          clear h34b hq
          go_wp2_with (first
           | (go_at_call 182; refine hpl.mono ?_; clear hpl; rintro e w' ⟨rfl, hwe⟩; rw [← hwe]; clear hwe)
           | (at_builtin; refine appByte (w.heap.size + 1) rfl (.tmp 60) (.tmp 64) rfl _ l (s[m + 1]'hlt2) rfl rfl HO.out (by omega) (by omega) ?_; intro v1 w1 hown hgr; have hQ1 := HQW.out.row2 hgr (fun g hg => OwnB.base HO.out g hg)))
          have HO1 := Lib.hid hown
          have HQ1 := Lib.hid hQ1
          clear hown hgr hQ1
          go_roundg (s.size - (m + 2))
          case measure => have := HN.out; omega
          case rel => exact ⟨m + 2, _, rfl, rfl, by omega, by omega, HQ1.out, HO1.out, by simp; omega, HQ.out⟩
        ·have HQ : Hid (Lx.quoted k (s.data.toList.drop (k + 1)) [] 1 = .bad 12 (m + 1)) := by
          have e := HES.out
          rw [if_neg (by simpa using h110), if_neg (by simpa using hq), show k + (m - k) + 1 = m + 1 from by omega] at e
          exact e
         have c34 := u8f _ 34 (by omega : ¬ (s[m + 1]'hlt2).toNat = 34)
         have c92 := u8f _ 92 (by omega : ¬ (s[m + 1]'hlt2).toNat = 92)
         clear h110 hq
         have hwr := zyZ 12 ((m : Int) + 1) wr
         have HX := HZ.out
         go_wp2_with (first
          | (go_at_call 182; refine hpl.mono ?_; clear hpl; rintro e w' ⟨rfl, hwe⟩; rw [← hwe]; clear hwe)
          | (go_at_call 170; refine hwr.mono ?_; clear hwr; rintro e W3 ⟨rfl, hb3⟩; obtain ⟨⟨a0, a1, a2, a3, a4, a5, a6⟩, ⟨f0, f1, f2, f3, f4, f5, f6⟩, hl3⟩ := zeZ ((hb3.block _ hrl).trans HX)))
         refine bodyPost_ret (v := .agg #[.int .i64 0, .int .i64 0, .string ⟨#[]⟩, .int .i64 0, .int .i64 0, .int .i64 12, .int .i64 ((m : Int) + 1)]) (by simp [results, Tryz.results169, go_sem, a0, a1, a2, a3, a4, a5, a6, f0, f1, f2, f3, f4, f5, f6, hl3]) rfl ?_
         rw [HQ.out]
         have hbf := Below.chain HB.out hb3
         refine ⟨rfl, ?_⟩
         repeat (first | (with_reducible exact hbf) | with_reducible refine BSet ?_ (Nat.le_refl _))
     ·have b92 := u8f _ 92 h92
      have HQ : Hid (Lx.quoted k (s.data.toList.drop (k + 1)) [] 1 = .bad 12 m) := HE.out.symm.trans (by
       rw [HD.out, zcrZ H34.out h92 (zghZ hp H34.out h92), show k + (m - k) = m from by omega])
      clear h92 hp
      have hwr := zyZ 12 (m : Int) wr
      have HX := HZ.out
      go_wp2_with (first
       | (go_at_call 182; refine hpl.mono ?_; clear hpl; rintro e w' ⟨rfl, hwe⟩; rw [← hwe]; clear hwe)
       | (go_at_call 170; refine hwr.mono ?_; clear hwr; rintro e W3 ⟨rfl, hb3⟩; obtain ⟨⟨a0, a1, a2, a3, a4, a5, a6⟩, ⟨f0, f1, f2, f3, f4, f5, f6⟩, hl3⟩ := zeZ ((hb3.block _ hrl).trans HX)))
      refine bodyPost_ret (v := .agg #[.int .i64 0, .int .i64 0, .string ⟨#[]⟩, .int .i64 0, .int .i64 0, .int .i64 12, .int .i64 (m : Int)]) (by simp [results, Tryz.results169, go_sem, a0, a1, a2, a3, a4, a5, a6, f0, f1, f2, f3, f4, f5, f6, hl3]) rfl ?_
      rw [HQ.out]
      have hbf := Below.chain HB.out hb3
      refine ⟨rfl, ?_⟩
      repeat (first | (with_reducible exact hbf) | with_reducible refine BSet ?_ (Nat.le_refl _))
  ·have hi : ¬ (m : Int) < (s.size : Int) := by omega
   have bsz : ((m : Int) == (s.size : Int)) = true := by simp; omega
   have HM := Lib.hid hlt
   have HQ : Hid (Lx.quoted k (s.data.toList.drop (k + 1)) [] 1 = .bad 12 m) := HE.out.symm.trans (by
    rw [List.drop_eq_nil_of_le (by rw [zgZ]; have := HM.out; omega), Lx.quoted, show k + (m - k) = m from by omega])
   have hwr := zyZ 12 (m : Int) wr
   have HX := HZ.out
   go_wp2_with (first
    | (go_at_call 170; refine hwr.mono ?_; clear hwr; rintro e W3 ⟨rfl, hb3⟩; obtain ⟨⟨a0, a1, a2, a3, a4, a5, a6⟩, ⟨f0, f1, f2, f3, f4, f5, f6⟩, hl3⟩ := zeZ ((hb3.block _ hrl).trans HX)))
   refine bodyPost_ret (v := .agg #[.int .i64 0, .int .i64 0, .string ⟨#[]⟩, .int .i64 0, .int .i64 0, .int .i64 12, .int .i64 (m : Int)]) (by simp [results, Tryz.results169, go_sem, a0, a1, a2, a3, a4, a5, a6, f0, f1, f2, f3, f4, f5, f6, hl3]) rfl ?_
   rw [HQ.out]
   have hbf := Below.chain HB.out hb3
   refine ⟨rfl, ?_⟩
   repeat (first | (with_reducible exact hbf) | with_reducible refine BSet ?_ (Nat.le_refl _))
end Go.Proofs.YtdncljdfmdgdaaaGreatDoor
namespace Go.Proofs.YtdncljdfmdgdaaaGreatDoor
open Go.RowKit
set_option linter.unusedSimpArgs false
set_option linter.unusedVariables false
def cutR (p : Nat) (l : Lx.Bytes) : Lx.Res := if (l.head?.map Lx.begins).getD false then Lx.cut p l else .bad 10 p
theorem zzZ {p : Nat} {b : UInt8} {t : Lx.Bytes} (h : Lx.begins b = true) : cutR p (b :: t) = Lx.cut p (b :: t) := by
 simp [cutR, h]
theorem zhoZ {p : Nat} {b : UInt8} {t : Lx.Bytes} (h : Lx.begins b = false) : cutR p (b :: t) = .bad 10 p := by
 simp [cutR, h]
theorem zerZ (m : Nat) (h0 : m ≠ 0) (h : m < 14) : sgs.getD m [] = [firsts.getD m 0] := by
 have key : ((List.range 14).all fun m => m == 0 || sgs.getD m [] == [firsts.getD m 0]) = true := by decide
 have := List.all_eq_true.1 key m (List.mem_range.2 h)
 simpa [h0] using this
theorem zkmZ (b : UInt8) (h : firsts.contains b = true) : ∃ m, m ≠ 0 ∧ m < 14 ∧ firsts.getD m 0 = b := by
 have key : ∀ x ∈ firsts, ((List.range 14).any fun m => m != 0 && firsts.getD m 0 == x) = true := by decide
 have := List.any_eq_true.1 (key b (List.contains_iff_mem.1 h))
 obtain ⟨m, hm, he⟩ := this
 simp only [Bool.and_eq_true, bne_iff_ne, ne_eq, beq_iff_eq] at he
 exact ⟨m, he.1, List.mem_range.1 hm, he.2⟩
theorem zknZ (m : Nat) (h : m < 14) : firsts.contains (firsts.getD m 0) = true := by
 have key : ((List.range 14).all fun m => firsts.contains (firsts.getD m 0)) = true := by decide
 exact List.all_eq_true.1 key m (List.mem_range.2 h)
theorem pre_one (c b : UInt8) (t : Lx.Bytes) : List.isPrefixOf [c] (b :: t) = (c == b) := by simp [List.isPrefixOf]
theorem pre_two (b : UInt8) (t : Lx.Bytes) : List.isPrefixOf [61, 61] (b :: t) = (b.toNat == 61 && t.head? == some 61) := by
 have hb : ((61 : UInt8) == b) = (b.toNat == 61) := by
  rw [Bool.eq_iff_iff]
  simp only [beq_iff_eq]
  exact ⟨fun h => by rw [← h]; rfl, fun h => (UInt8.toNat_inj.1 (by simpa using h)).symm⟩
 cases t with
 | nil => simp [List.isPrefixOf]
 | cons d t =>
  have hd : ((61 : UInt8) == d) = (d == 61) := by rw [Bool.eq_iff_iff]; simp only [beq_iff_eq]; exact ⟨Eq.symm, Eq.symm⟩
  simp [List.isPrefixOf, hb, hd]
theorem znbZ {p : Nat} {b : UInt8} {t : Lx.Bytes} {m : Nat} (hm : m < 14) (hl : Lx.letter b = false) (hd : Lx.digit b = false) (h34 : ¬ b.toNat = 34)
  (hp : (sgs.getD m []).isPrefixOf (b :: t) = true) (hn : ∀ j, j < m → (sgs.getD j []).isPrefixOf (b :: t) = false) :
  cutR p (b :: t) = .ok ⟨p, 6, sgs.getD m [], 0⟩ (sgs.getD m []).length := by
 have hb34 : (b.toNat == 34) = false := by simpa using h34
 rcases Nat.eq_zero_or_pos m with rfl | hpos
 ·have e : sgs.getD 0 [] = [61, 61] := rfl
  rw [e, pre_two] at hp
  have hb : b.toNat = 61 := by simp at hp; exact hp.1
  have hbeg : Lx.begins b = true := by
   have : b = 61 := UInt8.toNat_inj.1 hb
   subst this; decide
  rw [zzZ hbeg, e]
  simp [Lx.cut, hl, hd, hb34, hp]
 ·rw [zerZ m (by omega) hm, pre_one] at hp
  have hfb : firsts.getD m 0 = b := by simpa using hp
  have hbeg : Lx.begins b = true := by
   have := zknZ m hm
   rw [hfb, zdvZ] at this
   unfold Lx.begins
   rw [this]; simp
  have h0 := hn 0 hpos
  rw [show sgs.getD 0 [] = [61, 61] from rfl, pre_two] at h0
  rw [zzZ hbeg, zerZ m (by omega) hm, hfb]
  simp only [Lx.cut, hl, hd, hb34, h0]
  simp
theorem zncZ {p : Nat} {b : UInt8} {t : Lx.Bytes} (hl : Lx.letter b = false) (hd : Lx.digit b = false) (h34 : ¬ b.toNat = 34)
  (hn : ∀ j, j < 14 → (sgs.getD j []).isPrefixOf (b :: t) = false) : cutR p (b :: t) = .bad 10 p := by
 have hb34 : (b.toNat == 34) = false := by simpa using h34
 apply zhoZ
 unfold Lx.begins
 rw [hl, hd, hb34, ← zdvZ]
 simp only [Bool.false_or]
 cases hf : firsts.contains b with
 | false => rfl
 | true =>
  exfalso
  obtain ⟨m, h0, hm, e⟩ := zkmZ b hf
  have := hn m hm
  rw [zerZ m h0 hm, pre_one, e] at this
  simp at this
theorem zczZ (p : Nat) (r : Lx.Res) : ∃ (a b : Int) (c : ByteArray) (d e f h : Int), cutV p r = .agg #[.int .i64 a, .int .i64 b, .string c, .int .i64 d, .int .i64 e, .int .i64 f, .int .i64 h] := by
 cases r with
 | ok t n => exact ⟨_, _, _, _, _, _, _, rfl⟩
 | bad y x => exact ⟨_, _, _, _, _, _, _, rfl⟩
theorem pre_take {x l : Lx.Bytes} (h : x.length ≤ l.length) : x.isPrefixOf l = (l.take x.length == x) := by
 rw [Bool.eq_iff_iff, List.isPrefixOf_iff_prefix, beq_iff_eq, List.prefix_iff_eq_take]
 exact ⟨Eq.symm, Eq.symm⟩
theorem zkoZ {x l : Lx.Bytes} (h : l.length < x.length) : x.isPrefixOf l = false := by
 rw [← Bool.not_eq_true, List.isPrefixOf_iff_prefix]
 intro hp
 have := hp.length_le
 omega
theorem BDrew {B : Nat} {w W : World} (h : Below B w W) : Below B w W.drew := ⟨h.os, h.tape, h.output, h.size, h.block⟩
set_option maxRecDepth 100000 in
set_option maxHeartbeats 4000000 in
theorem refCut (s : ByteArray) (k : Nat) (w : World) (hk : k < s.size) (hs : s.size ≤ 140737488351232) :
  Calls Tryz.prog 152 #[.string s, .int .i64 (k : Int)] w fun e w' => e = .returned (cutV k (cutR k (s.data.toList.drop k))) ∧ Below w.heap.size w w' := by
 have hsi : (s.size : Int) ≤ 140737488351232 := by omega
 have hki : (k : Int) < (s.size : Int) := by omega
 have hk0 : (0 : Int) ≤ (k : Int) := by omega
 have HD := Lib.hid (byte_at s k hk)
 go_enter Tryz.func152, Tryz.ntmps152
 go_upto_region 1 with fail
 have hblk := heap_alloc_new w (.cells #[.int .i64 0, .int .i64 0, .string ⟨#[]⟩, .int .i64 0, .int .i64 0, .int .i64 0, .int .i64 0] 193)
 have hb := zdZ (World.grownBy_alloc w (.cells #[.int .i64 0, .int .i64 0, .string ⟨#[]⟩, .int .i64 0, .int .i64 0, .int .i64 0, .int .i64 0] 193) none)
 have hsz : (w.alloc (.cells #[.int .i64 0, .int .i64 0, .string ⟨#[]⟩, .int .i64 0, .int .i64 0, .int .i64 0, .int .i64 0] 193)).heap.size = w.heap.size + 1 := by rw [World.size_alloc]
 obtain ⟨W1, hW1⟩ : ∃ W1, w.alloc (.cells #[.int .i64 0, .int .i64 0, .string ⟨#[]⟩, .int .i64 0, .int .i64 0, .int .i64 0, .int .i64 0] 193) = W1 := ⟨_, rfl⟩
 rw [hW1] at hblk hb hsz ⊢
 have HZ := Lib.hid hblk
 have HB := Lib.hid hb
 have hrl := zaZ hblk
 clear hblk hW1 hb
 by_cases hlet : Lx.letter (s[k]'hk) = true
 ·have HR := Lib.hid (show cutR k (s.data.toList.drop k) = Lx.cutName k (s.data.toList.drop k) by
   rw [HD.out, zzZ (by simp [Lx.begins, hlet])]
   simp only [Lx.cut, hlet, if_true])
  have h2 : Lx.small (s[k]'hk) = true ∨ (Lx.small (s[k]'hk) = false ∧ Lx.great (s[k]'hk) = true) := by
   have h := hlet
   unfold Lx.letter at h
   cases hsm : Lx.small (s[k]'hk) with
   | true => exact .inl rfl
   | false => rw [hsm, Bool.false_or] at h; exact .inr ⟨rfl, h⟩
  rcases h2 with hsm | ⟨hsm, hgr⟩
  all_goals
   have hca := fun X => refName s k X hk hs hlet
   obtain ⟨l0, l1, l2, l3, l4, l5, l6, hcv⟩ := zczZ k (Lx.cutName k (s.data.toList.drop k))
   have HCV := Lib.hid hcv
   go_wp2_with (first
    | (go_at_call 164; refine (zbcZ _ _).mono ?_; rw [hsm]; rintro e w' ⟨rfl, hwe⟩; rw [← hwe]; clear hwe)
    | (go_at_call 165; refine (zrZ _ _).mono ?_; rw [hgr]; rintro e w' ⟨rfl, hwe⟩; rw [← hwe]; clear hwe)
    | (go_at_call 166; refine (zxZ _ _).mono ?_; rw [hdg]; rintro e w' ⟨rfl, hwe⟩; rw [← hwe]; clear hwe)
    | (go_at_call 167; refine (hca _).mono ?_; rw [hcv]; clear hca; rintro e W3 ⟨rfl, hb3⟩; obtain ⟨⟨a0, a1, a2, a3, a4, a5, a6⟩, ⟨f0, f1, f2, f3, f4, f5, f6⟩, hl3⟩ := zeZ ((hb3.block _ hrl).trans HZ.out)))
   refine bodyPost_ret (v := .agg #[.int .i64 l0, .int .i64 l1, .string l2, .int .i64 l3, .int .i64 l4, .int .i64 l5, .int .i64 l6]) (by simp [results, Tryz.results152, go_sem, a0, a1, a2, a3, a4, a5, a6, f0, f1, f2, f3, f4, f5, f6, hl3]) rfl ?_
   rw [HR.out, HCV.out]
   have hbf := Below.chain HB.out hb3
   refine ⟨rfl, ?_⟩
   repeat (first | (with_reducible exact hbf) | with_reducible refine BSet ?_ (Nat.le_refl _))
 ·have hlf : Lx.letter (s[k]'hk) = false := by simpa using hlet
  have hsg : Lx.small (s[k]'hk) = false ∧ Lx.great (s[k]'hk) = false := by simpa [Lx.letter] using hlf
  obtain ⟨hsm, hgr⟩ := hsg
  cases hdg : Lx.digit (s[k]'hk) with
  | true =>
   have HR := Lib.hid (show cutR k (s.data.toList.drop k) = Lx.cutNumber k (s.data.toList.drop k) by
    rw [HD.out, zzZ (by simp [Lx.begins, hdg])]
    simp only [Lx.cut, hlf, hdg, if_true, Bool.false_eq_true, if_false])
   have hca := fun X => zkkZ s k X hk hs hdg
   obtain ⟨l0, l1, l2, l3, l4, l5, l6, hcv⟩ := zczZ k (Lx.cutNumber k (s.data.toList.drop k))
   have HCV := Lib.hid hcv
   go_wp2_with (first
    | (go_at_call 164; refine (zbcZ _ _).mono ?_; rw [hsm]; rintro e w' ⟨rfl, hwe⟩; rw [← hwe]; clear hwe)
    | (go_at_call 165; refine (zrZ _ _).mono ?_; rw [hgr]; rintro e w' ⟨rfl, hwe⟩; rw [← hwe]; clear hwe)
    | (go_at_call 166; refine (zxZ _ _).mono ?_; rw [hdg]; rintro e w' ⟨rfl, hwe⟩; rw [← hwe]; clear hwe)
    | (go_at_call 168; refine (hca _).mono ?_; rw [hcv]; clear hca; rintro e W3 ⟨rfl, hb3⟩; obtain ⟨⟨a0, a1, a2, a3, a4, a5, a6⟩, ⟨f0, f1, f2, f3, f4, f5, f6⟩, hl3⟩ := zeZ ((hb3.block _ hrl).trans HZ.out)))
   refine bodyPost_ret (v := .agg #[.int .i64 l0, .int .i64 l1, .string l2, .int .i64 l3, .int .i64 l4, .int .i64 l5, .int .i64 l6]) (by simp [results, Tryz.results152, go_sem, a0, a1, a2, a3, a4, a5, a6, f0, f1, f2, f3, f4, f5, f6, hl3]) rfl ?_
   rw [HR.out, HCV.out]
   have hbf := Below.chain HB.out hb3
   refine ⟨rfl, ?_⟩
   repeat (first | (with_reducible exact hbf) | with_reducible refine BSet ?_ (Nat.le_refl _))
  | false =>
   by_cases h34 : (s[k]'hk).toNat = 34
   ·have b34 := u8t _ 34 h34
    have HR := Lib.hid (show cutR k (s.data.toList.drop k) = Lx.quoted k (s.data.toList.drop (k + 1)) [] 1 by
     rw [HD.out, zzZ (by simp [Lx.begins, h34])]
     simp only [Lx.cut, hlf, hdg, h34, beq_self_eq_true, if_true, Bool.false_eq_true, if_false])
    clear h34
    have hca := fun X => zklZ s k X hk hs
    obtain ⟨l0, l1, l2, l3, l4, l5, l6, hcv⟩ := zczZ k (Lx.quoted k (s.data.toList.drop (k + 1)) [] 1)
    have HCV := Lib.hid hcv
    go_wp2_with (first
     | (go_at_call 164; refine (zbcZ _ _).mono ?_; rw [hsm]; rintro e w' ⟨rfl, hwe⟩; rw [← hwe]; clear hwe)
     | (go_at_call 165; refine (zrZ _ _).mono ?_; rw [hgr]; rintro e w' ⟨rfl, hwe⟩; rw [← hwe]; clear hwe)
     | (go_at_call 166; refine (zxZ _ _).mono ?_; rw [hdg]; rintro e w' ⟨rfl, hwe⟩; rw [← hwe]; clear hwe)
     | (go_at_call 169; refine (hca _).mono ?_; rw [hcv]; clear hca; rintro e W3 ⟨rfl, hb3⟩; obtain ⟨⟨a0, a1, a2, a3, a4, a5, a6⟩, ⟨f0, f1, f2, f3, f4, f5, f6⟩, hl3⟩ := zeZ ((hb3.block _ hrl).trans HZ.out)))
    refine bodyPost_ret (v := .agg #[.int .i64 l0, .int .i64 l1, .string l2, .int .i64 l3, .int .i64 l4, .int .i64 l5, .int .i64 l6]) (by simp [results, Tryz.results152, go_sem, a0, a1, a2, a3, a4, a5, a6, f0, f1, f2, f3, f4, f5, f6, hl3]) rfl ?_
    rw [HR.out, HCV.out]
    have hbf := Below.chain HB.out hb3
    refine ⟨rfl, ?_⟩
    repeat (first | (with_reducible exact hbf) | with_reducible refine BSet ?_ (Nat.le_refl _))
   ·have b34 := u8f _ 34 h34
    have H34 := Lib.hid h34
    clear h34 hlet
    go_upto_region 9 with (first
 | (go_at_call 164; refine (zbcZ _ _).mono ?_; rw [hsm]; rintro e w' ⟨rfl, hwe⟩; rw [← hwe]; clear hwe)
 | (go_at_call 165; refine (zrZ _ _).mono ?_; rw [hgr]; rintro e w' ⟨rfl, hwe⟩; rw [← hwe]; clear hwe)
 | (go_at_call 166; refine (zxZ _ _).mono ?_; rw [hdg]; rintro e w' ⟨rfl, hwe⟩; rw [← hwe]; clear hwe)
     | (go_at_call 139; refine (zepZ _).mono ?_; rintro e W2 ⟨rfl, hWe⟩; rw [hWe]; clear hWe))
    have hblk2 := heap_alloc_new W1 (.cells sgCells 9)
    have hz2 := heap_alloc HZ.out (.cells sgCells 9)
    have hb2 := HB.out.alloc HB.out.size (.cells sgCells 9)
    have hsz2 : (W1.alloc (.cells sgCells 9)).heap.size = w.heap.size + 2 := by rw [World.size_alloc, hsz]
    rw [hsz] at hblk2
    obtain ⟨W2, hW2⟩ : ∃ W2, W1.alloc (.cells sgCells 9) = W2 := ⟨_, rfl⟩
    rw [hW2] at hblk2 hz2 hb2 hsz2 ⊢
    have HS2 := Lib.hid hblk2
    have HZ2 := Lib.hid hz2
    have HB2 := Lib.hid hb2
    have HL := Lib.hid (And.intro hlf hdg)
    have hrl2 := zaZ hz2
    have hrl3 := zaZ hblk2
    clear hblk2 hz2 hb2 hW2 HZ HB hrl hsz hlf hsm hgr hdg b34
    go_wp2_with fail
    go_loopg [7] 14 (fun n v wr => ∃ (m : Nat), n = 14 - m ∧ v = .int .i64 (m : Int) ∧ m ≤ 14 ∧ wr.heap = W2.heap ∧ Below w.heap.size w wr ∧ ∀ j, j < m → (sgs.getD j []).isPrefixOf (s.data.toList.drop k) = false)
    case atStart => exact ⟨0, rfl, rfl, Nat.zero_le _, rfl, HB2.out, fun j h => absurd h (Nat.not_lt_zero j)⟩
    case round =>
     obtain ⟨m, hn, rfl, hm, hwq, hwb, hc⟩ := hrel
     have HN := Lib.hid hn
     have HC := Lib.hid hc
     have HWQ := Lib.hid hwq
     have HS3 : Hid (wr.heap[w.heap.size + 1]? = some (.cells sgCells 9 (0, 0))) := Lib.hid (by rw [hwq]; exact HS2.out)
     have HZ3 : Hid (wr.heap[w.heap.size]? = some (.cells #[.int .i64 0, .int .i64 0, .string ⟨#[]⟩, .int .i64 0, .int .i64 0, .int .i64 0, .int .i64 0] 193 (0, 0))) := Lib.hid (by rw [hwq]; exact HZ2.out)
     have HB3 : Hid (Below w.heap.size w wr) := Lib.hid hwb
     have hrl5 := zaZ HZ3.out
     have hrl6 := zaZ HS3.out
     clear hn hc hwq hwb
     by_cases hlt : m < 14
     ·have hi2 : (m : Int) < 14 := by omega
      have hi0 : (0 : Int) ≤ (m : Int) := by omega
      have t0 := (cell_of HS3.out m).trans (zcyZ m hlt)
      obtain ⟨x, hx⟩ : ∃ x, sgs.getD m [] = x := ⟨_, rfl⟩
      have HX := Lib.hid hx
      rw [hx] at t0
      have hx2 : x.length ≤ 2 := by
       have key : ((List.range 14).all fun m => decide ((sgs.getD m []).length ≤ 2)) = true := by decide
       have := List.all_eq_true.1 key m (List.mem_range.2 hlt)
       rw [hx] at this
       simpa using this
      obtain ⟨S, hS⟩ : ∃ S : ByteArray, (⟨x.toArray⟩ : ByteArray) = S := ⟨_, rfl⟩
      have HSX := Lib.hid (show S.data.toList = x by rw [← hS])
      have hSl : S.size = x.length := by rw [← hS]; rfl
      have HSL := Lib.hid hSl
      rw [hS] at t0
      have hS2 : (S.size : Int) ≤ 2 := by omega
      have hS0 : (0 : Int) ≤ (S.size : Int) := by omega
      have hwr : IntKind.i64.wrap ((k : Int) + (S.size : Int)) = (k : Int) + (S.size : Int) := by rw [IntKind.wrap_i64]; omega
      have HSS := Lib.hid hS
      clear hx hS hSl hx2
      by_cases hfit : k + S.size ≤ s.size
      ·have hfi : (k : Int) + (S.size : Int) ≤ (s.size : Int) := by omega
       have HP := Lib.hid (show x.isPrefixOf (s.data.toList.drop k) = ((s.data.toList.drop k).take S.size == x) by
        rw [pre_take (by rw [List.length_drop, zgZ, ← HSL.out]; omega), HSL.out])
       obtain ⟨E, hE⟩ : ∃ E : ByteArray, s.extract k (k + S.size) = E := ⟨_, rfl⟩
       have hcmp : (E.toList == S.toList) = ((s.data.toList.drop k).take S.size == x) := by
        rw [ByteArray.toList_eq, ByteArray.toList_eq, ← hE, zuZ, HSX.out, show k + S.size - k = S.size by omega]
       clear hfit
       cases hq : ((s.data.toList.drop k).take S.size == x) with
       | true =>
        rw [hq] at hcmp HP
        have HR := Lib.hid (show cutR k (s.data.toList.drop k) = .ok ⟨k, 6, x, 0⟩ x.length by
         rw [HD.out]
         have := znbZ (p := k) hlt HL.out.1 HL.out.2 H34.out (by rw [HX.out, ← HD.out]; exact HP.out) (by rw [← HD.out]; exact HC.out)
         rw [HX.out] at this
         exact this)
        clear hq
        go_wp2_with fail
        go_quiet (fail)
        obtain ⟨W4, hW4⟩ : ∃ W4, wr.drewN nq = W4 := ⟨_, rfl⟩
        have HS4 : Hid (W4.heap[w.heap.size + 1]? = some (.cells sgCells 9 (0, 0))) := Lib.hid (by rw [← hW4]; exact HS3.out)
        have HZ4 : Hid (W4.heap[w.heap.size]? = some (.cells #[.int .i64 0, .int .i64 0, .string ⟨#[]⟩, .int .i64 0, .int .i64 0, .int .i64 0, .int .i64 0] 193 (0, 0))) := Lib.hid (by rw [← hW4]; exact HZ3.out)
        have HB4 : Hid (Below w.heap.size w W4) := Lib.hid (by rw [← hW4]; exact Below.drewN HB3.out _)
        have s0 : W4.cell? ⟨w.heap.size + 1, m, none⟩ = some (.string S) := by rw [← hW4]; exact t0
        have hl4 := zaZ HZ4.out
        have hl5 := zaZ HS4.out
        rw [hW4]
        clear hW4 t0 hrl5 hrl6
        go_upto_region 15 with fail
        have ht := heap_alloc_new W4 (.cells #[.int .i64 (k : Int), .int .i64 6, .string S, .int .i64 0] 133)
        have hz5 := heap_alloc HZ4.out (.cells #[.int .i64 (k : Int), .int .i64 6, .string S, .int .i64 0] 133)
        have hb5 := HB4.out.alloc HB4.out.size (.cells #[.int .i64 (k : Int), .int .i64 6, .string S, .int .i64 0] 133)
        have s5 : (W4.alloc (.cells #[.int .i64 (k : Int), .int .i64 6, .string S, .int .i64 0] 133)).cell? ⟨w.heap.size + 1, m, none⟩ = some (.string S) := (World.cell?_of_block (Below.heap_alloc W4 _ _ hl5)).trans s0
        have hsz5 := World.size_alloc W4 (.cells #[.int .i64 (k : Int), .int .i64 6, .string S, .int .i64 0] 133)
        obtain ⟨L, hL⟩ : ∃ L, W4.heap.size = L := ⟨_, rfl⟩
        obtain ⟨W5, hW5⟩ : ∃ W5, W4.alloc (.cells #[.int .i64 (k : Int), .int .i64 6, .string S, .int .i64 0] 133) = W5 := ⟨_, rfl⟩
        rw [hL] at ht hl4 hl5
        rw [hL, hW5] at hsz5
        rw [hW5] at ht hz5 hb5 s5
        rw [hL, hW5]
        obtain ⟨t0, t1, t2, t3⟩ := zfZ ht
        obtain ⟨⟨p0, p1, p2, p3, p4, p5, p6⟩, ⟨g0, g1, g2, g3, g4, g5, g6⟩, hl0⟩ := zeZ hz5
        have hlt5 := zaZ ht
        have hls5 : w.heap.size + 1 < W5.heap.size := by omega
        have HB5 := Lib.hid hb5
        have HLL := Lib.hid hl4
        clear hL hW5 s0 hb5 hz5 ht hsz5 hl4 hl5 hE hcmp
        go_region
        go_wp2_with fail
        refine bodyPost_ret (v := .agg #[.int .i64 (k : Int), .int .i64 6, .string S, .int .i64 0, .int .i64 ((k : Int) + (S.size : Int)), .int .i64 0, .int .i64 0]) (by simp [results, Tryz.results152, go_sem, p0, p1, p2, p3, p4, p5, p6, g0, g1, g2, g3, g4, g5, g6, hl0]) rfl ?_
        rw [HR.out]
        have hbf := HB5.out
        refine ⟨?_, ?_⟩
        ·simp only [cutV, HSS.out]
         rw [← HSL.out]
         rfl
        ·refine BDrew ?_
         repeat (first | (with_reducible exact hbf) | with_reducible refine BSet ?_ (Nat.le_refl _))
       | false =>
        rw [hq] at hcmp HP
        clear hq
        go_wp2_with fail
        go_quiet (fail)
        go_wp2_with fail
        go_roundg (14 - (m + 1))
        case measure => have := HN.out; omega
        case rel => exact ⟨m + 1, rfl, by simp, hlt, HWQ.out, Below.drewN HB3.out _, fun j hj => by
        rcases Nat.lt_or_ge j m with h | h
        ·exact HC.out j h
        ·rw [show j = m by omega, HX.out]; exact HP.out⟩
      ·have hfi : decide ((k : Int) + (S.size : Int) ≤ (s.size : Int)) = false := by simp; omega
       have HP := Lib.hid (show x.isPrefixOf (s.data.toList.drop k) = false from zkoZ (by rw [List.length_drop, zgZ, ← HSL.out]; omega))
       clear hfit
       go_wp2_with fail
       go_quiet (fail)
       go_wp2_with fail
       go_roundg (14 - (m + 1))
       case measure => have := HN.out; omega
       case rel => exact ⟨m + 1, rfl, by simp, hlt, HWQ.out, Below.drewN HB3.out _, fun j hj => by
        rcases Nat.lt_or_ge j m with h | h
        ·exact HC.out j h
        ·rw [show j = m by omega, HX.out]; exact HP.out⟩
     ·have hi2 : ¬ (m : Int) < 14 := by omega
      have HR := Lib.hid (show cutR k (s.data.toList.drop k) = .bad 10 k by
       rw [HD.out]
       refine zncZ HL.out.1 HL.out.2 H34.out ?_
       rw [← HD.out]
       exact fun j hj => HC.out j (by omega))
      have hwg := zyZ 10 (k : Int) wr
      go_wp2_with (go_at_call 170; refine hwg.mono ?_; clear hwg; rintro e W3 ⟨rfl, hb3⟩; obtain ⟨⟨a0, a1, a2, a3, a4, a5, a6⟩, ⟨f0, f1, f2, f3, f4, f5, f6⟩, hl3⟩ := zeZ ((hb3.block _ hrl5).trans HZ3.out))
      refine bodyPost_ret (v := .agg #[.int .i64 0, .int .i64 0, .string ⟨#[]⟩, .int .i64 0, .int .i64 0, .int .i64 10, .int .i64 (k : Int)]) (by simp [results, Tryz.results152, go_sem, a0, a1, a2, a3, a4, a5, a6, f0, f1, f2, f3, f4, f5, f6, hl3]) rfl ?_
      rw [HR.out]
      have hbf := Below.chain HB3.out hb3
      refine ⟨rfl, ?_⟩
      repeat (first | (with_reducible exact hbf) | with_reducible refine BSet ?_ (Nat.le_refl _))
end Go.Proofs.YtdncljdfmdgdaaaGreatDoor
namespace Go.Proofs.YtdncljdfmdgdaaaGreatDoor
open Go.RowKit
namespace Lx
def nameOk (t : Tok) : Bool :=
 match toks t.s with
 | ([x], none) => x.kind == t.kind && (x.s == t.s && t.n == 0)
 | _ => false
def oneR (t : Tok) : Bytes × Bool :=
 if t.kind = 1 ∨ t.kind = 2 ∨ t.kind = 3 then (t.s, nameOk t)
 else if t.kind = 4 then (if t.n < 0 ∨ t.s ≠ [] then ([], false) else (Lib.decDigits t.n.toNat, true))
 else if t.kind = 5 then (if t.s.all saidB then (quote t.s, t.n == 0) else ([], false))
 else if t.kind = 6 then (if sgs.contains t.s then (t.s, t.n == 0) else ([], false))
 else ([], false)
theorem zfmZ (l : Bytes) : nameKind l = 1 ∨ nameKind l = 2 ∨ nameKind l = 3 := by
 unfold nameKind
 split
 ·exact .inr (.inr rfl)
 ·split
  ·exact .inr (.inl rfl)
  ·exact .inl rfl
theorem zndZ (c : UInt8) (h : signs.contains c = true) : sgs.contains [c] = true := by
 have key : ∀ x ∈ signs, sgs.contains [x] = true := by decide
 exact key c (List.contains_iff_mem.1 h)
theorem zneZ {s : Bytes} (h : sgs.contains s = true) : s = [61, 61] ∨ ∃ c, s = [c] ∧ signs.contains c = true := by
 have key : ∀ x ∈ sgs, x = [61, 61] ∨ ∃ c ∈ signs, x = [c] := by decide
 rcases key s (List.contains_iff_mem.1 h) with h | ⟨c, hc, e⟩
 ·exact .inl h
 ·exact .inr ⟨c, e, List.contains_iff_mem.2 hc⟩
theorem znfZ {s : Bytes} {t : Tok} (h : Form s t.bare) : oneR t = (s, true) := by
 obtain ⟨p, k, u, n⟩ := t
 simp only [Tok.bare] at h
 generalize hb : (⟨0, k, u, n⟩ : Tok) = b at h
 cases h with
 | name c s hc hs hl =>
  have hf := Form.name c s hc hs hl
  injection hb with _ hk hu hn
  subst hk hu hn
  have ht := zmeZ hf (by omega)
  unfold oneR nameOk
  rw [if_pos (by rcases zfmZ (c :: s) with h | h | h <;> rw [h] <;> simp)]
  simp [ht]
 | number c s hs hv hz =>
  injection hb with _ hk hu hn
  subst hk hu hn
  unfold oneR
  rw [if_neg (by simp), if_pos rfl, if_neg (by simp)]
  show (Lib.decDigits (value (c :: s)), true) = _
  rw [zclZ hs hz]
 | text v hv =>
  injection hb with _ hk hu hn
  subst hk hu hn
  unfold oneR
  rw [if_neg (by simp), if_neg (by simp), if_pos rfl, if_pos (by simpa using hv)]
  rfl
 | two =>
  injection hb with _ hk hu hn
  subst hk hu hn
  rfl
 | sign c hc =>
  injection hb with _ hk hu hn
  subst hk hu hn
  unfold oneR
  rw [if_neg (by simp), if_neg (by simp), if_neg (by simp), if_pos rfl, if_pos (zndZ c hc)]
  rfl
theorem zngZ {t : Tok} (h1 : t.n ≤ 9223372036854775807) (h : (oneR t).2 = true) : Form (oneR t).1 t.bare := by
 obtain ⟨p, k, u, n⟩ := t
 unfold oneR at h ⊢
 simp only [Tok.bare] at *
 by_cases hk : k = 1 ∨ k = 2 ∨ k = 3
 ·rw [if_pos hk] at h ⊢
  unfold nameOk at h
  simp only at h ⊢
  cases ht : toks u with
  | mk l o =>
   rw [ht] at h
   match l, o, h, ht with
   | [x], none, h, ht =>
    simp only [Bool.and_eq_true, beq_iff_eq] at h
    obtain ⟨h2, h3, h4⟩ := h
    have hgo : go (u.length + 1) 0 0 u = ([x], none) := by
     unfold toks at ht
     split at ht
     ·injection ht with _ h; cases h
     ·exact ht
    obtain ⟨-, hp⟩ := zhhZ _ _ _ _ _ hgo (by omega)
    obtain ⟨hf, -⟩ := hp x (List.mem_singleton.2 rfl)
    obtain ⟨q, k', u', n'⟩ := x
    simp only [Tok.bare] at *
    subst h2 h3 h4
    generalize hb : (⟨0, k', u', n'⟩ : Tok) = b at hf
    generalize (written _).1 = S at hf
    cases hf with
    | name c s hc hs hl =>
     injection hb with _ hk hu hn
     subst hk hu
     exact Form.name c s hc hs hl
    | number c s hs hv hz => injection hb with _ hk' hu hn; omega
    | text v hv => injection hb with _ hk' hu hn; omega
    | two => injection hb with _ hk' hu hn; omega
    | sign c hc => injection hb with _ hk' hu hn; omega
   | [], none, h, _ => cases h
   | _ :: _ :: _, none, h, _ => cases h
   | [], some _, h, _ => cases h
   | _ :: _, some _, h, _ => simp at h
 ·rw [if_neg hk] at h ⊢
  by_cases h4 : k = 4
  ·rw [if_pos h4] at h ⊢
   by_cases hn : n < 0 ∨ u ≠ []
   ·rw [if_pos hn] at h; cases h
   ·rw [if_neg hn] at h ⊢
    have hu : u = [] := by
     cases u with
     | nil => rfl
     | cons a l => exact absurd (.inr (by simp)) hn
    have hn0 : 0 ≤ n := by
     rcases Int.lt_or_le n 0 with h | h
     ·exact absurd (.inl h) hn
     ·exact h
    subst hu h4
    obtain ⟨c, s, e1, e2, e3, e4⟩ := zflZ n.toNat
    have hf := Form.number c s e2 (by omega) (fun h => (e4 h).1)
    simp only
    rw [e1]
    rw [e3] at hf
    rw [show ((n.toNat : Nat) : Int) = n by omega] at hf
    exact hf
  ·rw [if_neg h4] at h ⊢
   by_cases h5 : k = 5
   ·rw [if_pos h5] at h ⊢
    by_cases ha : u.all saidB = true
    ·rw [if_pos ha] at h ⊢
     simp only [beq_iff_eq] at h
     subst h h5
     exact Form.text u (by simpa using ha)
    ·rw [if_neg ha] at h; cases h
   ·rw [if_neg h5] at h ⊢
    by_cases h6 : k = 6
    ·rw [if_pos h6] at h ⊢
     by_cases ha : sgs.contains u = true
     ·rw [if_pos ha] at h ⊢
      simp only [beq_iff_eq] at h
      subst h h6
      rcases zneZ ha with rfl | ⟨c, rfl, hc⟩
      ·exact Form.two
      ·exact Form.sign c hc
     ·rw [if_neg ha] at h; cases h
    ·rw [if_neg h6] at h; cases h
theorem one_written {t : Tok} (h1 : t.n ≤ 9223372036854775807) : (oneR t).2 = (written t).2 ∧ ((written t).2 = true → oneR t = written t) := by
 have hw : (written t).2 = true → oneR t = written t := fun h => by
  have hf := form_of_written h
  rw [znfZ hf]
  exact Prod.ext rfl h.symm
 refine ⟨?_, hw⟩
 cases h2 : (written t).2 with
 | true => rw [hw h2, h2]
 | false =>
  cases h : (oneR t).2 with
  | false => rfl
  | true =>
   have := zcmZ (zngZ h1 h)
   rw [this] at h2
   cases h2
theorem zcdZ (p : Nat) : ∀ (m : Nat) (l acc : Bytes) (k y x : Nat), l.length ≤ m → quoted p l acc k = .bad y x → y = 12
 | m, [], acc, k, y, x, _, h => by
  simp only [quoted] at h
  injection h with h1 h2
  exact h1.symm
 | 0, c :: l, acc, k, y, x, hm, h => by simp at hm
 | m + 1, c :: l, acc, k, y, x, hm, h => by
  have hm' : l.length ≤ m := by simpa using hm
  by_cases e34 : c = 34
  ·subst e34; simp [quoted] at h
  ·by_cases e92 : c = 92
   ·subst e92
    cases l with
    | nil => simp only [quoted] at h; injection h with h1 h2; exact h1.symm
    | cons d l =>
     have hm2 : l.length ≤ m := by simp at hm'; omega
     rw [zvZ] at h
     split at h
     ·exact zcdZ p m l _ _ y x hm2 h
     ·split at h
      ·exact zcdZ p m l _ _ y x hm2 h
      ·injection h with h1 h2; exact h1.symm
   ·rw [zcnZ p c l acc k e34 e92] at h
    split at h
    ·injection h with h1 h2; exact h1.symm
    ·exact zcdZ p m l _ _ y x hm' h
theorem cut_why {p y x : Nat} {b : UInt8} {l : Bytes} (h : cut p (b :: l) = .bad y x) : y = 2 ∨ y = 11 ∨ y = 12 := by
 simp only [cut] at h
 split at h
 ·simp only [cutName] at h
  split at h
  ·injection h with h1 h2; exact .inl h1.symm
  ·cases h
 ·split at h
  ·simp only [cutNumber] at h
   split at h
   ·injection h with h1 h2; exact .inr (.inl h1.symm)
   ·cases h
  ·split at h
   ·exact .inr (.inr (zcdZ p _ l _ _ y x (Nat.le_refl _) h))
   ·split at h <;> cases h
end Lx
end Go.Proofs.YtdncljdfmdgdaaaGreatDoor
namespace Go.Proofs.YtdncljdfmdgdaaaGreatDoor
open Go.RowKit Go.Shelf
set_option linter.unusedSimpArgs false
set_option linter.unusedVariables false
theorem OwnT.toks {w : World} {base : Nat} {v : Value} {l : List Lx.Tok} (h : OwnT w base v l) : ToksIn w v l := by
 rcases h.2 with ⟨rfl, hn⟩ | ⟨g, cap, cur, rfl, hbg, hgb, hcap, hcm, hcs, htk⟩
 ·exact .inl ⟨List.length_eq_zero_iff.1 hn, none, 0, rfl⟩
 ·exact .inr ⟨g, cap, cur, (0, 0), rfl, hgb, htk⟩
theorem TokAt.below {w w' : World} {b o : Nat} {t : Lx.Tok} (h : TokAt w b o t) (hb : Below w.heap.size w w') : TokAt w' b o t := by
 obtain ⟨h0, h1, h2, h3, h4⟩ := h
 have hl := World.block_lt_of_cell? w ⟨b, o, none⟩ h0
 have e : ∀ j, w'.cell? ⟨b, j, none⟩ = w.cell? ⟨b, j, none⟩ := fun j => World.cell?_of_block (hb.block b hl)
 exact ⟨(e _).trans h0, (e _).trans h1, (e _).trans h2, (e _).trans h3, h4⟩
end Go.Proofs.YtdncljdfmdgdaaaGreatDoor
namespace Go.Proofs.YtdncljdfmdgdaaaGreatDoor
open Go.RowKit
set_option linter.unusedSimpArgs false
set_option linter.unusedVariables false
def whyR (o : Option (Nat × Nat)) : Int := ((o.map Prod.fst).getD 0 : Nat)
def placeR (o : Option (Nat × Nat)) : Int := ((o.map Prod.snd).getD 0 : Nat)
theorem OwnT.slice {w : World} {base : Nat} {v : Value} {l : List Lx.Tok} (h : OwnT w base v l) : ∃ A c, v = .slice A l.length c := by
 rcases h.2 with ⟨rfl, h0⟩ | ⟨g, cap, cur, rfl, _⟩
 ·exact ⟨none, 0, by rw [h0]⟩
 ·exact ⟨_, cap, rfl⟩
theorem OwnT.base {w : World} {base : Nat} {v : Value} {l : List Lx.Tok} (h : OwnT w base v l) (k : Nat) (hk : v.ownBlock = some k) : base ≤ k := (World.ownsRow.lt h k hk).1
theorem OwnT.below {W W' : World} {v : Value} {l : List Lx.Tok} {base : Nat} (h : OwnT W base v l) (hb : Below W.heap.size W W') : OwnT W' base v l :=
 World.ownsRow.kept h (zoZ hb) (by cases v.ownBlock <;> simp)
section
variable {s : ByteArray} {p f i : Nat}
theorem tk_end (hp : p ≤ s.size) (hf : s.size - p < f) (hq : skipAt s p = s.size) : Lx.go f p i (s.data.toList.drop p) = ([], none) := by
 obtain ⟨g, rfl⟩ : ∃ g, f = g + 1 := ⟨f - 1, by omega⟩
 exact go_end hp hq
theorem tk_byte (hp : p ≤ s.size) (hf : s.size - p < f) (hq : skipAt s p < s.size) (hb : Lx.begins (s[skipAt s p]'hq) = false) : Lx.go f p i (s.data.toList.drop p) = ([], some (10, skipAt s p)) := by
 obtain ⟨g, rfl⟩ : ∃ g, f = g + 1 := ⟨f - 1, by omega⟩
 exact go_byte hp hq hb
theorem tk_many (hp : p ≤ s.size) (hf : s.size - p < f) (hq : skipAt s p < s.size) (hb : Lx.begins (s[skipAt s p]'hq) = true) (hi : i = 4096) : Lx.go f p i (s.data.toList.drop p) = ([], some (3, skipAt s p)) := by
 obtain ⟨g, rfl⟩ : ∃ g, f = g + 1 := ⟨f - 1, by omega⟩
 exact go_many hp hq hb hi
theorem tk_bad {y x : Nat} (hp : p ≤ s.size) (hf : s.size - p < f) (hq : skipAt s p < s.size) (hb : Lx.begins (s[skipAt s p]'hq) = true) (hi : i ≠ 4096) (h : Lx.cut (skipAt s p) (s.data.toList.drop (skipAt s p)) = .bad y x) :
  Lx.go f p i (s.data.toList.drop p) = ([], some (y, x)) := by
 obtain ⟨g, rfl⟩ : ∃ g, f = g + 1 := ⟨f - 1, by omega⟩
 exact go_bad hp hq hb hi h
theorem tk_ok {t : Lx.Tok} {n : Nat} (hp : p ≤ s.size) (hf : s.size - p < f) (hq : skipAt s p < s.size) (hb : Lx.begins (s[skipAt s p]'hq) = true) (hi : i ≠ 4096) (h : Lx.cut (skipAt s p) (s.data.toList.drop (skipAt s p)) = .ok t n) :
  ∃ g, s.size - (skipAt s p + n) < g ∧ Lx.go f p i (s.data.toList.drop p) = (t :: (Lx.go g (skipAt s p + n) (i + 1) (s.data.toList.drop (skipAt s p + n))).1, (Lx.go g (skipAt s p + n) (i + 1) (s.data.toList.drop (skipAt s p + n))).2) := by
 obtain ⟨g, rfl⟩ : ∃ g, f = g + 1 := ⟨f - 1, by omega⟩
 have h2 := zgsZ hq h
 have h3 := (skip_at s p hp).1
 exact ⟨g, by omega, go_ok hp hq hb hi h⟩
end
set_option maxRecDepth 100000 in
set_option maxHeartbeats 4000000 in
theorem zdwZ (s : ByteArray) (w : World) (hs : s.size ≤ 140737488351232) :
  Calls Tryz.prog 138 #[.string s] w fun e w' => ∃ v, e = .returned (.tuple #[v, .int .i64 (placeR (Lx.toks s.data.toList).2), .int .i64 (whyR (Lx.toks s.data.toList).2)]) ∧ OwnT w' w.heap.size v (Lx.toks s.data.toList).1 ∧ Below w.heap.size w w' := by
 have hsi : (s.size : Int) ≤ 140737488351232 := by omega
 go_enter Tryz.func138, Tryz.ntmps138
 by_cases hbig : 65536 < s.size
 ·have hbi : (65536 : Int) < (s.size : Int) := by omega
  have HR := Lib.hid (show Lx.toks s.data.toList = ([], some (2, 0)) by unfold Lx.toks; rw [if_pos (by rw [zgZ]; exact hbig)])
  clear hbig
  go_wp2
  refine bodyPost_ret (results_tmp3 rfl _ _ _) rfl ?_
  rw [HR.out]
  exact ⟨_, rfl, World.ownsRow_nil _ _ _ _, Below.refl _ _⟩
 ·have hbi : ¬ (65536 : Int) < (s.size : Int) := by omega
  have HT := Lib.hid (show Lx.toks s.data.toList = Lx.go (s.size + 1) 0 0 s.data.toList by unfold Lx.toks; rw [if_neg (by rw [zgZ]; exact hbig), zgZ])
  have hsk := refSkip s 0 w (Nat.zero_le _) hs
  clear hbig
  go_wp2_with (go_at_call 150; refine hsk.mono ?_; clear hsk; rintro e w' ⟨rfl, hwe⟩; rw [hwe]; clear hwe)
  go_loopg [5, 6] (s.size - skipAt s 0) (fun n r v wr => ∃ (p f : Nat) (ts : List Lx.Tok), n = s.size - skipAt s p ∧ v = .int .i64 ((skipAt s p : Nat) : Int) ∧ p ≤ s.size ∧ s.size - p < f ∧ ts.length ≤ 4096 ∧ OwnT wr w.heap.size r ts ∧ Below w.heap.size w wr ∧
   Lx.toks s.data.toList = (ts ++ (Lx.go f p ts.length (s.data.toList.drop p)).1, (Lx.go f p ts.length (s.data.toList.drop p)).2))
  case atStart => exact ⟨0, s.size + 1, [], rfl, rfl, Nat.zero_le _, by omega, by simp, World.ownsRow_nil _ _ _ _, Below.refl _ _, by rw [HT.out]; rfl⟩
  case round =>
   obtain ⟨p, f, ts, hn, rfl, hp, hf, hl, ho, hb, he⟩ := hrel
   obtain ⟨A0, cap0, hv⟩ := ho.slice
   subst hv
   have HN := Lib.hid hn
   have HO := Lib.hid ho
   have HB := Lib.hid hb
   have HE := Lib.hid he
   have HF := Lib.hid hf
   have HP := Lib.hid hp
   have hsq := skip_at s p hp
   obtain ⟨m, hm⟩ : ∃ m, skipAt s p = m := ⟨_, rfl⟩
   rw [hm] at hsq HN ⊢
   have hpm : p ≤ m := hsq.1
   have hms : m ≤ s.size := hsq.2.1
   have HM := Lib.hid hm
   have m0 : (0 : Int) ≤ (m : Int) := by omega
   have hli : (ts.length : Int) ≤ 4096 := by omega
   clear hn ho hb he hf hsq hm
   by_cases hlt : m < s.size
   ·have hi : (m : Int) < (s.size : Int) := by omega
    have hbg := fun X => zkiZ (s[m]'hlt) X
    have hca := fun X => refCut s m X hlt hs
    have HD := Lib.hid (byte_at s m hlt)
    cases hbe : Lx.begins (s[m]'hlt) with
    | false =>
     have HR := Lib.hid (show Lx.toks s.data.toList = (ts, some (10, m)) by
      rw [HE.out, tk_byte HP.out HF.out (by rw [HM.out]; exact hlt) (by simp only [HM.out]; exact hbe), HM.out, List.append_nil])
     rw [hbe] at hbg
     rw [HD.out, zhoZ hbe] at hca
     clear hbe
     by_cases h4 : ts.length = 4096
     ·have b4 : ((ts.length : Int) == 4096) = true := by simp; omega
      clear h4
      rw [show cutV m (.bad 10 m) = .agg #[.int .i64 0, .int .i64 0, .string ⟨#[]⟩, .int .i64 0, .int .i64 0, .int .i64 10, .int .i64 (m : Nat)] from rfl] at hca
      go_upto_region 9 with (first | (go_at_call 151; refine (hbg _).mono ?_; clear hbg; rintro e Wb ⟨rfl, hbb⟩) | (go_at_call 152; refine (hca _).mono ?_; clear hca; rintro e Wc ⟨rfl, hbc⟩; have hbq := Below.chain hbb hbc))
      have hx5 := heap_alloc_new Wc (.cells #[.int .i64 0, .int .i64 0, .string ⟨#[]⟩, .int .i64 0, .int .i64 0, .int .i64 10, .int .i64 (m : Nat)] 193)
      have ho5 : OwnT (Wc.alloc (.cells #[.int .i64 0, .int .i64 0, .string ⟨#[]⟩, .int .i64 0, .int .i64 0, .int .i64 10, .int .i64 (m : Nat)] 193)) w.heap.size (.slice A0 ts.length cap0) ts := World.ownsRow.alloc (HO.out.below hbq) _
      have hb5 : Below w.heap.size w (Wc.alloc (.cells #[.int .i64 0, .int .i64 0, .string ⟨#[]⟩, .int .i64 0, .int .i64 0, .int .i64 10, .int .i64 (m : Nat)] 193)) := BAlloc (Below.chain HB.out hbq)
      have hne : ∀ r, (Value.slice A0 ts.length cap0).ownBlock = some r → r ≠ Wc.heap.size := fun r e => by have := (World.ownsRow.lt HO.out r e).2; have := hbq.size; omega
      obtain ⟨L, hL⟩ : ∃ L, Wc.heap.size = L := ⟨_, rfl⟩
      rw [hL] at hne
      obtain ⟨W5, hW5⟩ : ∃ W5, Wc.alloc (.cells #[.int .i64 0, .int .i64 0, .string ⟨#[]⟩, .int .i64 0, .int .i64 0, .int .i64 10, .int .i64 (m : Nat)] 193) = W5 := ⟨_, rfl⟩
      rw [hL, hW5] at hx5
      rw [hW5] at ho5 hb5
      rw [hL, hW5]
      obtain ⟨⟨p0, p1, p2, p3, p4, p5, p6⟩, -, hl0⟩ := zeZ hx5
      have HO5 := Lib.hid ho5
      have HB5 := Lib.hid hb5
      clear hx5 ho5 hb5 hL hW5 hbq
      go_wp2_with fail
      go_quiet (fail)
      go_wp2_with fail
      refine bodyPost_ret (results_tmp3 rfl _ _ _) rfl ?_
      rw [HR.out]
      exact ⟨_, rfl, (show OwnT (World.drewN _ _) _ _ _ from HO5.out), Below.drewN HB5.out _⟩
     ·have b4 : ((ts.length : Int) == 4096) = false := by simp; omega
      clear h4
      rw [show cutV m (.bad 10 m) = .agg #[.int .i64 0, .int .i64 0, .string ⟨#[]⟩, .int .i64 0, .int .i64 0, .int .i64 10, .int .i64 (m : Nat)] from rfl] at hca
      go_upto_region 9 with (first | (go_at_call 151; refine (hbg _).mono ?_; clear hbg; rintro e Wb ⟨rfl, hbb⟩) | (go_at_call 152; refine (hca _).mono ?_; clear hca; rintro e Wc ⟨rfl, hbc⟩; have hbq := hbc))
      have hx5 := heap_alloc_new Wc (.cells #[.int .i64 0, .int .i64 0, .string ⟨#[]⟩, .int .i64 0, .int .i64 0, .int .i64 10, .int .i64 (m : Nat)] 193)
      have ho5 : OwnT (Wc.alloc (.cells #[.int .i64 0, .int .i64 0, .string ⟨#[]⟩, .int .i64 0, .int .i64 0, .int .i64 10, .int .i64 (m : Nat)] 193)) w.heap.size (.slice A0 ts.length cap0) ts := World.ownsRow.alloc (HO.out.below hbq) _
      have hb5 : Below w.heap.size w (Wc.alloc (.cells #[.int .i64 0, .int .i64 0, .string ⟨#[]⟩, .int .i64 0, .int .i64 0, .int .i64 10, .int .i64 (m : Nat)] 193)) := BAlloc (Below.chain HB.out hbq)
      have hne : ∀ r, (Value.slice A0 ts.length cap0).ownBlock = some r → r ≠ Wc.heap.size := fun r e => by have := (World.ownsRow.lt HO.out r e).2; have := hbq.size; omega
      obtain ⟨L, hL⟩ : ∃ L, Wc.heap.size = L := ⟨_, rfl⟩
      rw [hL] at hne
      obtain ⟨W5, hW5⟩ : ∃ W5, Wc.alloc (.cells #[.int .i64 0, .int .i64 0, .string ⟨#[]⟩, .int .i64 0, .int .i64 0, .int .i64 10, .int .i64 (m : Nat)] 193) = W5 := ⟨_, rfl⟩
      rw [hL, hW5] at hx5
      rw [hW5] at ho5 hb5
      rw [hL, hW5]
      obtain ⟨⟨p0, p1, p2, p3, p4, p5, p6⟩, -, hl0⟩ := zeZ hx5
      have HO5 := Lib.hid ho5
      have HB5 := Lib.hid hb5
      clear hx5 ho5 hb5 hL hW5 hbq
      go_wp2_with fail
      go_quiet (fail)
      go_wp2_with fail
      refine bodyPost_ret (results_tmp3 rfl _ _ _) rfl ?_
      rw [HR.out]
      exact ⟨_, rfl, (show OwnT (World.drewN _ _) _ _ _ from HO5.out), Below.drewN HB5.out _⟩
    | true =>
     rw [hbe] at hbg
     by_cases h4 : ts.length = 4096
     ·have b4 : ((ts.length : Int) == 4096) = true := by simp; omega
      have HR := Lib.hid (show Lx.toks s.data.toList = (ts, some (3, m)) by
       rw [HE.out, tk_many HP.out HF.out (by rw [HM.out]; exact hlt) (by simp only [HM.out]; exact hbe) h4, HM.out, List.append_nil])
      clear h4 hbe
      go_wp2_with (first | (go_at_call 151; refine (hbg _).mono ?_; clear hbg; rintro e Wb ⟨rfl, hbb⟩))
      refine bodyPost_ret (results_tmp3 rfl _ _ _) rfl ?_
      rw [HR.out]
      exact ⟨_, rfl, HO.out.below hbb, Below.chain HB.out hbb⟩
     ·have b4 : ((ts.length : Int) == 4096) = false := by simp; omega
      rw [HD.out, zzZ hbe, ← HD.out] at hca
      cases hcut : Lx.cut m (s.data.toList.drop m) with
      | bad y x =>
       have HR := Lib.hid (show Lx.toks s.data.toList = (ts, some (y, x)) by
        rw [HE.out, tk_bad HP.out HF.out (by rw [HM.out]; exact hlt) (by simp only [HM.out]; exact hbe) h4 (by rw [HM.out]; exact hcut), List.append_nil])
       have hy := Lx.cut_why (by rw [← HD.out]; exact hcut)
       have hyb : ((y : Int) != 0) = true := by simp; omega
       rw [hcut] at hca
       clear hy h4 hcut hbe
       rw [show cutV m (.bad y x) = .agg #[.int .i64 0, .int .i64 0, .string ⟨#[]⟩, .int .i64 0, .int .i64 0, .int .i64 (y : Nat), .int .i64 (x : Nat)] from rfl] at hca
       go_upto_region 9 with (first | (go_at_call 151; refine (hbg _).mono ?_; clear hbg; rintro e Wb ⟨rfl, hbb⟩) | (go_at_call 152; refine (hca _).mono ?_; clear hca; rintro e Wc ⟨rfl, hbc⟩; have hbq := hbc))
       have hx5 := heap_alloc_new Wc (.cells #[.int .i64 0, .int .i64 0, .string ⟨#[]⟩, .int .i64 0, .int .i64 0, .int .i64 (y : Nat), .int .i64 (x : Nat)] 193)
       have ho5 : OwnT (Wc.alloc (.cells #[.int .i64 0, .int .i64 0, .string ⟨#[]⟩, .int .i64 0, .int .i64 0, .int .i64 (y : Nat), .int .i64 (x : Nat)] 193)) w.heap.size (.slice A0 ts.length cap0) ts := World.ownsRow.alloc (HO.out.below hbq) _
       have hb5 : Below w.heap.size w (Wc.alloc (.cells #[.int .i64 0, .int .i64 0, .string ⟨#[]⟩, .int .i64 0, .int .i64 0, .int .i64 (y : Nat), .int .i64 (x : Nat)] 193)) := BAlloc (Below.chain HB.out hbq)
       have hne : ∀ r, (Value.slice A0 ts.length cap0).ownBlock = some r → r ≠ Wc.heap.size := fun r e => by have := (World.ownsRow.lt HO.out r e).2; have := hbq.size; omega
       obtain ⟨L, hL⟩ : ∃ L, Wc.heap.size = L := ⟨_, rfl⟩
       rw [hL] at hne
       obtain ⟨W5, hW5⟩ : ∃ W5, Wc.alloc (.cells #[.int .i64 0, .int .i64 0, .string ⟨#[]⟩, .int .i64 0, .int .i64 0, .int .i64 (y : Nat), .int .i64 (x : Nat)] 193) = W5 := ⟨_, rfl⟩
       rw [hL, hW5] at hx5
       rw [hW5] at ho5 hb5
       rw [hL, hW5]
       obtain ⟨⟨p0, p1, p2, p3, p4, p5, p6⟩, -, hl0⟩ := zeZ hx5
       have HO5 := Lib.hid ho5
       have HB5 := Lib.hid hb5
       clear hx5 ho5 hb5 hL hW5 hbq
       go_wp2_with fail
       go_quiet (fail)
       go_wp2_with fail
       refine bodyPost_ret (results_tmp3 rfl _ _ _) rfl ?_
       rw [HR.out]
       exact ⟨_, rfl, (show OwnT (World.drewN _ _) _ _ _ from HO5.out), Below.drewN HB5.out _⟩
      | ok t n =>
       obtain ⟨g, hg1, hg2⟩ := tk_ok (s := s) (p := p) (f := f) (i := ts.length) HP.out HF.out (by rw [HM.out]; exact hlt) (by simp only [HM.out]; exact hbe) h4 (by rw [HM.out]; exact hcut)
       rw [HM.out] at hg1 hg2
       have hfit := zgsZ hlt hcut
       have HG1 := Lib.hid hg1
       have HR := Lib.hid (show Lx.toks s.data.toList = ((ts ++ [t]) ++ (Lx.go g (m + n) (ts ++ [t]).length (s.data.toList.drop (m + n))).1, (Lx.go g (m + n) (ts ++ [t]).length (s.data.toList.drop (m + n))).2) by
        rw [HE.out, hg2, List.length_append, List.append_assoc]
        rfl)
       have hl' : ts.length + 1 ≤ 4096 := by omega
       have HFIT := Lib.hid hfit
       rw [hcut] at hca
       rw [show cutV m (.ok t n) = .agg #[.int .i64 t.pos, .int .i64 t.kind, .string ⟨t.s.toArray⟩, .int .i64 t.n, .int .i64 ((m + n : Nat) : Int), .int .i64 0, .int .i64 0] from rfl] at hca
       obtain ⟨q, hq⟩ : ∃ q, m + n = q := ⟨_, rfl⟩
       rw [hq] at hca HG1 HR HFIT
       have hsk := fun X => refSkip s q X HFIT.out.2 hs
       have hsk2 := (skip_at s q HFIT.out.2).1
       have HQ := Lib.hid hq
       have HMQ : Hid (m < q) := Lib.hid (by have := HFIT.out.1; omega)
       clear hg1 hg2 hfit h4 hcut hbe hq
       go_upto_region 9 with (first | (go_at_call 151; refine (hbg _).mono ?_; clear hbg; rintro e Wb ⟨rfl, hbb⟩) | (go_at_call 152; refine (hca _).mono ?_; clear hca; rintro e Wc ⟨rfl, hbc⟩; have hbq := hbc))
       have hx5 := heap_alloc_new Wc (.cells #[.int .i64 t.pos, .int .i64 t.kind, .string ⟨t.s.toArray⟩, .int .i64 t.n, .int .i64 (q : Nat), .int .i64 0, .int .i64 0] 193)
       have ho5 : OwnT (Wc.alloc (.cells #[.int .i64 t.pos, .int .i64 t.kind, .string ⟨t.s.toArray⟩, .int .i64 t.n, .int .i64 (q : Nat), .int .i64 0, .int .i64 0] 193)) w.heap.size (.slice A0 ts.length cap0) ts := World.ownsRow.alloc (HO.out.below hbq) _
       have hb5 : Below w.heap.size w (Wc.alloc (.cells #[.int .i64 t.pos, .int .i64 t.kind, .string ⟨t.s.toArray⟩, .int .i64 t.n, .int .i64 (q : Nat), .int .i64 0, .int .i64 0] 193)) := BAlloc (Below.chain HB.out hbq)
       have hne : ∀ r, (Value.slice A0 ts.length cap0).ownBlock = some r → r ≠ Wc.heap.size := fun r e => by have := (World.ownsRow.lt HO.out r e).2; have := hbq.size; omega
       obtain ⟨L, hL⟩ : ∃ L, Wc.heap.size = L := ⟨_, rfl⟩
       rw [hL] at hne
       obtain ⟨W5, hW5⟩ : ∃ W5, Wc.alloc (.cells #[.int .i64 t.pos, .int .i64 t.kind, .string ⟨t.s.toArray⟩, .int .i64 t.n, .int .i64 (q : Nat), .int .i64 0, .int .i64 0] 193) = W5 := ⟨_, rfl⟩
       rw [hL, hW5] at hx5
       rw [hW5] at ho5 hb5
       rw [hL, hW5]
       obtain ⟨⟨p0, p1, p2, p3, p4, p5, p6⟩, -, hl0⟩ := zeZ hx5
       have HO5 := Lib.hid ho5
       have HB5 := Lib.hid hb5
       clear hx5 ho5 hb5 hL hW5 hbq
       have ho' : W5.ownsRow w.heap.size 133 4 (.slice A0 ts.length cap0) ts.length (ts.flatMap cellsT) := HO5.out
       have hW := HB5.out
       have hWsz := HB5.out.size
       obtain ⟨i0, hi', hz0, hz1, hz2⟩ := info_parts infoTok
       go_wp2_with (first
        | (at_builtin; refine wpList_append_own _ rfl _ _ 73 rfl w.heap.size 133 i0 _ 4 40 Tryz.underlying73 hi' hz0 hz1 hz2 rfl (by decide) _ _ _ rfl (ho'.alloc _) ⟨W5.heap.size, 0, none⟩ 1 1 (cellsT t) rfl rfl (zjeZ _ _ _) (by simp [cellsT, Value.oneCell']) (by unfold maxLen; omega) (by omega) (by simp; omega) ?_; intro v' w1 hown' hgrow _; have hpp := (hgrow.block L (Nat.lt_of_lt_of_le hl0 (by simp)) (fun e => hne L e.symm rfl)).trans ((World.grownBy_alloc W5 _ none).block L hl0 (by simp)); have p4' := (World.cell?_of_block (a := ⟨L, 4, none⟩) hpp).trans p4; have hl6 : L < w1.heap.size := Nat.lt_of_lt_of_le hl0 (Nat.le_trans (by simp) hgrow.size); have ho6 := Lib.hid hown'; have hb6 := Lib.hid (Below.turn (hW.alloc hWsz _) hgrow (fun r e => OwnT.base HO5.out r e)); clear hown' hgrow hpp)
        | (go_at_call 150; refine (hsk _).mono ?_; clear hsk; rintro e w' ⟨rfl, hwe⟩; rw [hwe]; clear hwe))
       go_roundg (s.size - skipAt s q)
       case measure => have := HN.out; have := HMQ.out; have := HFIT.out; omega
       case rel =>
        refine ⟨q, g, ts ++ [t], rfl, rfl, HFIT.out.2, HG1.out, by rw [List.length_append]; exact hl', ?_, hb6.out, HR.out⟩
        unfold OwnT
        rw [List.length_append, List.flatMap_append]
        simpa using ho6.out
   ·have hi : ¬ (m : Int) < (s.size : Int) := by omega
    have HR := Lib.hid (show Lx.toks s.data.toList = (ts, none) by
     rw [HE.out, tk_end HP.out HF.out (by rw [HM.out]; omega), List.append_nil])
    go_wp2
    refine bodyPost_ret (results_tmp3 rfl _ _ _) rfl ?_
    rw [HR.out]
    exact ⟨_, rfl, HO.out, HB.out⟩
end Go.Proofs.YtdncljdfmdgdaaaGreatDoor
namespace Go.Proofs.YtdncljdfmdgdaaaGreatDoor
open Go.RowKit
namespace Lx
theorem go_why : ∀ (f p i : Nat) (l : Bytes) (y x : Nat), (go f p i l).2 = some (y, x) → y ≠ 0
 | 0, _, _, _, y, x, h => by simp [go] at h
 | f + 1, p, i, l, y, x, h => by
  rw [go] at h
  simp only at h
  split at h
  ·cases h
  ·rename_i b r hr
   split at h
   ·injection h with h; injection h with h1 h2; omega
   ·split at h
    ·injection h with h; injection h with h1 h2; omega
    ·split at h
     ·rename_i why x' hcut
      rw [hr] at hcut
      have := cut_why hcut
      injection h with h; injection h with h1 h2
      omega
     ·exact go_why f _ _ _ y x h
theorem toks_why {l : Bytes} {ts : List Tok} {y x : Nat} (h : toks l = (ts, some (y, x))) : y ≠ 0 := by
 unfold toks at h
 split at h
 ·injection h with _ h; injection h with h; injection h with h1 h2; omega
 ·exact go_why _ _ _ _ y x (by rw [h])
end Lx
end Go.Proofs.YtdncljdfmdgdaaaGreatDoor
