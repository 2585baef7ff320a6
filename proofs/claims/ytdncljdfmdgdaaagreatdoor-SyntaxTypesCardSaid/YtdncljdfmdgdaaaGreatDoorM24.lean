/-
  coilref1's functions of one byte.
-/
/-
 coilref1's functions of one byte.
 coilref1.skip.
 coilref1: wrong, Word, Signs, begins.
 coilref1.name.
-/
import Derived.Test.YtdncljdfmdgdaaaGreatDoorM1
import Derived.Test.YtdncljdfmdgdaaaGreatDoorM19
import Derived.Test.YtdncljdfmdgdaaaGreatDoorM7
import Derived.Test.YtdncljdfmdgdaaaGreatDoorM14
namespace Go.Proofs.YtdncljdfmdgdaaaGreatDoor
open Go.RowKit
set_option maxHeartbeats 400000
set_option linter.unusedSimpArgs false
set_option linter.unusedVariables false
theorem zbcZ (b : UInt8) (w : World) : Calls Tryz.prog 164 #[.int .u8 (b.toNat : Int)] w fun e w' => e = .returned (.bool (Lx.small b)) ∧ w = w' := by
 go_enter Tryz.func164, Tryz.ntmps164
 go_wp2
 all_goals
  go_ret
  refine ⟨zmZ ?_, rfl⟩
  rw [Bool.eq_iff_iff]
  simp [Lx.small]
  omega
theorem zrZ (b : UInt8) (w : World) : Calls Tryz.prog 165 #[.int .u8 (b.toNat : Int)] w fun e w' => e = .returned (.bool (Lx.great b)) ∧ w = w' := by
 go_enter Tryz.func165, Tryz.ntmps165
 go_wp2
 all_goals
  go_ret
  refine ⟨zmZ ?_, rfl⟩
  rw [Bool.eq_iff_iff]
  simp [Lx.great]
  omega
theorem zxZ (b : UInt8) (w : World) : Calls Tryz.prog 166 #[.int .u8 (b.toNat : Int)] w fun e w' => e = .returned (.bool (Lx.digit b)) ∧ w = w' := by
 go_enter Tryz.func166, Tryz.ntmps166
 go_wp2
 all_goals
  go_ret
  refine ⟨zmZ ?_, rfl⟩
  rw [Bool.eq_iff_iff]
  simp [Lx.digit]
  omega
theorem refSaid (b : UInt8) (w : World) : Calls Tryz.prog 123 #[.int .u8 (b.toNat : Int)] w fun e w' => e = .returned (.bool (Lx.saidB b)) ∧ w = w' := by
 go_enter Tryz.func123, Tryz.ntmps123
 go_wp2
 all_goals
  go_ret
  refine ⟨zmZ ?_, rfl⟩
  rw [Bool.eq_iff_iff]
  simp [Lx.saidB]
  omega
def plainB (c : UInt8) : Bool := decide (32 ≤ c.toNat) && (decide (c.toNat ≤ 126) && (!(c.toNat == 34) && !(c.toNat == 92)))
theorem zmzZ (b : UInt8) (w : World) : Calls Tryz.prog 182 #[.int .u8 (b.toNat : Int)] w fun e w' => e = .returned (.bool (plainB b)) ∧ w = w' := by
 go_enter Tryz.func182, Tryz.ntmps182
 go_wp2
 all_goals
  go_ret
  refine ⟨zmZ ?_, rfl⟩
  rw [Bool.eq_iff_iff]
  simp [plainB]
  omega
theorem zeoZ (b : UInt8) (w : World) : Calls Tryz.prog 180 #[.int .u8 (b.toNat : Int)] w fun e w' => e = .returned (.bool (Lx.within b)) ∧ w = w' := by
 go_enter Tryz.func180, Tryz.ntmps180
 cases hs : Lx.small b <;> cases hg : Lx.great b <;> cases hd : Lx.digit b
 all_goals
  have HW := Lib.hid (show Lx.within b = ((Lx.small b || Lx.great b) || Lx.digit b || b.toNat == 95) from rfl)
  rw [hs, hg, hd] at HW
  go_wp2_with (first
   | (go_at_call 164; refine (zbcZ _ _).mono ?_; rw [hs]; rintro e w' ⟨rfl, rfl⟩)
   | (go_at_call 165; refine (zrZ _ _).mono ?_; rw [hg]; rintro e w' ⟨rfl, rfl⟩)
   | (go_at_call 166; refine (zxZ _ _).mono ?_; rw [hd]; rintro e w' ⟨rfl, rfl⟩))
  go_ret
  refine ⟨zmZ ?_, rfl⟩
  rw [HW.out]
  first | rfl | (rw [Bool.eq_iff_iff]; simp; try omega)
end Go.Proofs.YtdncljdfmdgdaaaGreatDoor
namespace Go.Proofs.YtdncljdfmdgdaaaGreatDoor
open Go.RowKit
set_option linter.unusedSimpArgs false
set_option linter.unusedVariables false
theorem u8f (c : UInt8) (n : Nat) (h : ¬ c.toNat = n) : ((c.toNat : Int) == (n : Int)) = false := by simp; omega
theorem u8t (c : UInt8) (n : Nat) (h : c.toNat = n) : ((c.toNat : Int) == (n : Int)) = true := by simp [h]
set_option maxRecDepth 100000 in
set_option maxHeartbeats 4000000 in
theorem refSkip (s : ByteArray) (k : Nat) (w : World) (hk : k ≤ s.size) (hs : s.size ≤ 140737488351232) :
  Calls Tryz.prog 150 #[.string s, .int .i64 (k : Int)] w fun e w' => e = .returned (.int .i64 (skipAt s k : Nat)) ∧ w' = w := by
 have hsi : (s.size : Int) ≤ 140737488351232 := by omega
 go_enter Tryz.func150, Tryz.ntmps150
 go_wp2
 go_loopg [1] (s.size - k) (fun n v wr => ∃ m : Nat, n = s.size - m ∧ v = .int .i64 (m : Int) ∧ m ≤ s.size ∧ Lx.skip false (s.data.toList.drop m) = Lx.skip false (s.data.toList.drop k) ∧ wr = w)
 case atStart => exact ⟨k, rfl, rfl, hk, rfl, rfl⟩
 case round =>
  obtain ⟨m, hn, rfl, hm, he, rfl⟩ := hrel
  obtain ⟨g0, hg0⟩ : ∃ g0, g0 = gk := ⟨_, rfl⟩
  have HE := Lib.hid he
  have HN : Hid (g0 = s.size - m) := by rw [hg0]; exact hn
  subst hg0
  clear he hn
  have hi0 : (0 : Int) ≤ (m : Int) := by omega
  by_cases hlt : m < s.size
  ·have hi : (m : Int) < (s.size : Int) := by omega
   have HD := Lib.hid (byte_at s m hlt)
   obtain ⟨c, hc⟩ : ∃ c, s[m]'hlt = c := ⟨_, rfl⟩
   rw [hc] at HD
   have hblank : Lx.blank c = true → Lx.skip false (s.data.toList.drop (m + 1)) = Lx.skip false (s.data.toList.drop k) := fun h => by
    have e := HE.out
    rw [HD.out, Lx.skip_blank h] at e
    exact e
   by_cases h9 : c.toNat = 9
   ·have b9 : ((c.toNat : Int) == 9) = true := u8t c 9 h9
    have HB := Lib.hid (hblank (by simp [Lx.blank, h9]))
    clear hblank h9
    go_wp2
    go_roundg (s.size - (m + 1))
    case measure => have := HN.out; omega
    case rel => exact ⟨m + 1, rfl, by simp, hlt, HB.out, rfl⟩
   ·have b9 : ((c.toNat : Int) == 9) = false := u8f c 9 h9
    by_cases h10 : c.toNat = 10
    ·have b10 : ((c.toNat : Int) == 10) = true := u8t c 10 h10
     have HB := Lib.hid (hblank (by simp [Lx.blank, h10]))
     clear hblank h9 h10
     go_wp2
     go_roundg (s.size - (m + 1))
     case measure => have := HN.out; omega
     case rel => exact ⟨m + 1, rfl, by simp, hlt, HB.out, rfl⟩
    ·have b10 : ((c.toNat : Int) == 10) = false := u8f c 10 h10
     by_cases h13 : c.toNat = 13
     ·have b13 : ((c.toNat : Int) == 13) = true := u8t c 13 h13
      have HB := Lib.hid (hblank (by simp [Lx.blank, h13]))
      clear hblank h9 h10 h13
      go_wp2
      go_roundg (s.size - (m + 1))
      case measure => have := HN.out; omega
      case rel => exact ⟨m + 1, rfl, by simp, hlt, HB.out, rfl⟩
     ·have b13 : ((c.toNat : Int) == 13) = false := u8f c 13 h13
      by_cases h32 : c.toNat = 32
      ·have b32 : ((c.toNat : Int) == 32) = true := u8t c 32 h32
       have HB := Lib.hid (hblank (by simp [Lx.blank, h32]))
       clear hblank h9 h10 h13 h32
       go_wp2
       go_roundg (s.size - (m + 1))
       case measure => have := HN.out; omega
       case rel => exact ⟨m + 1, rfl, by simp, hlt, HB.out, rfl⟩
      ·have b32 : ((c.toNat : Int) == 32) = false := u8f c 32 h32
       have hnb : Lx.blank c = false := by simp [Lx.blank, h9, h10, h13, h32]
       have hstay : ¬ (c.toNat = 47 ∧ (s.data.toList.drop (m + 1)).head? = some 47) → skipAt s k = m := fun h => by
        have e := HE.out
        rw [HD.out, Lx.skip_stays hnb h, ← HD.out] at e
        exact zfoZ e.symm hm
       by_cases h47 : c.toNat = 47
       ·have n47 : ((c.toNat : Int) != 47) = false := by simp [h47]
        by_cases hend : m + 1 = s.size
        ·have be : ((m : Int) + 1 == (s.size : Int)) = true := by simp; omega
         have HS := Lib.hid (hstay (by
          rintro ⟨_, h⟩
          rw [List.drop_eq_nil_of_le (by rw [zgZ]; omega)] at h
          cases h))
         clear hblank hstay h9 h10 h13 h32 hnb h47 hend
         go_wp2
         go_ret
         rw [HS.out]
         exact ⟨rfl, rfl⟩
        ·have be : ((m : Int) + 1 == (s.size : Int)) = false := by simp; omega
         have hlt2 : m + 1 < s.size := by omega
         have hi2 : (m : Int) + 1 < (s.size : Int) := by omega
         have hi1 : (0 : Int) ≤ (m : Int) + 1 := by omega
         have HD2 := Lib.hid (byte_at s (m + 1) hlt2)
         obtain ⟨d, hd⟩ : ∃ d, s[m + 1]'hlt2 = d := ⟨_, rfl⟩
         rw [hd] at HD2
         by_cases d47 : d.toNat = 47
         ·have nd : ((d.toNat : Int) != 47) = false := by simp [d47]
          have hd' : d = 47 := UInt8.toNat_inj.1 d47
          have HR := Lib.hid (show Lx.skip true (s.data.toList.drop m) = Lx.skip false (s.data.toList.drop k) by
           have e := HE.out
           rw [HD.out, Lx.skip_remark hnb h47 (by rw [HD2.out, hd']; rfl)] at e
           rw [HD.out, Lx.skip_within (by omega)]
           exact e)
          have H47 := Lib.hid h47
          have HC := Lib.hid hc
          clear hblank hstay h9 h10 h13 h32 hnb h47 hend d47 hd'
          go_wp2
          go_loopg [1] (s.size - m) (fun n v wq => ∃ p : Nat, n = s.size - p ∧ v = .int .i64 (p : Int) ∧ m ≤ p ∧ p ≤ s.size ∧ Lx.skip true (s.data.toList.drop p) = Lx.skip false (s.data.toList.drop k) ∧ wq = wr)
          case atStart => exact ⟨m, rfl, rfl, Nat.le_refl _, hm, HR.out, rfl⟩
          case round =>
           obtain ⟨p, hn2, rfl, hmp, hp, he2, rfl⟩ := hrel
           have HE2 := Lib.hid he2
           have HN2 := Lib.hid hn2
           clear he2 hn2
           have hp0 : (0 : Int) ≤ (p : Int) := by omega
           by_cases hlp : p < s.size
           ·have hip : (p : Int) < (s.size : Int) := by omega
            have HDp := Lib.hid (byte_at s p hlp)
            obtain ⟨x, hx⟩ : ∃ x, s[p]'hlp = x := ⟨_, rfl⟩
            rw [hx] at HDp
            by_cases x10 : x.toNat = 10
            ·have nx : ((x.toNat : Int) != 10) = false := by simp [x10]
             have hpm : m < p := by
              rcases Nat.lt_or_ge m p with h | h
              ·exact h
              ·exfalso
               have : p = m := by omega
               subst this
               have e1 := HC.out
               rw [hx] at e1
               have e2 := H47.out
               rw [← e1] at e2
               omega
             have HB := Lib.hid (show Lx.skip false (s.data.toList.drop p) = Lx.skip false (s.data.toList.drop k) by
              have e := HE2.out
              rw [HDp.out, Lx.skip_out x10, ← HDp.out] at e
              exact e)
             clear x10
             go_wp2
             go_roundg (s.size - p)
             case measure => have := HN.out; omega
             case rel => exact ⟨p, rfl, rfl, hp, HB.out, rfl⟩
            ·have nx : ((x.toNat : Int) != 10) = true := by simp; omega
             have HB := Lib.hid (show Lx.skip true (s.data.toList.drop (p + 1)) = Lx.skip false (s.data.toList.drop k) by
              have e := HE2.out
              rw [HDp.out, Lx.skip_within x10] at e
              exact e)
             clear x10
             go_wp2
             go_roundg (s.size - (p + 1))
             case measure => have := HN2.out; omega
             case rel => exact ⟨p + 1, rfl, by simp, by omega, hlp, HB.out, rfl⟩
           ·have hip : ¬ (p : Int) < (s.size : Int) := by omega
            have HB := Lib.hid (show Lx.skip false (s.data.toList.drop p) = Lx.skip false (s.data.toList.drop k) by
             have e := HE2.out
             rw [List.drop_eq_nil_of_le (by rw [zgZ]; omega)] at e ⊢
             rw [Lx.skip_end] at e ⊢
             exact e)
            go_wp2
            go_roundg (s.size - p)
            case measure => have := HN.out; omega
            case rel => exact ⟨p, rfl, rfl, hp, HB.out, rfl⟩
         ·have nd : ((d.toNat : Int) != 47) = true := by simp; omega
          have HS := Lib.hid (hstay (by
           rintro ⟨_, h⟩
           rw [HD2.out] at h
           injection h with h
           subst h
           exact d47 rfl))
          clear hblank hstay h9 h10 h13 h32 hnb h47 hend d47
          go_wp2
          go_ret
          rw [HS.out]
          exact ⟨rfl, rfl⟩
       ·have n47 : ((c.toNat : Int) != 47) = true := by simp; omega
        have HS := Lib.hid (hstay (fun h => h47 h.1))
        clear hblank hstay h9 h10 h13 h32 hnb h47
        go_wp2
        go_ret
        rw [HS.out]
        exact ⟨rfl, rfl⟩
  ·have hi : ¬ (m : Int) < (s.size : Int) := by omega
   have HS := Lib.hid (show skipAt s k = m from zfoZ (by
    rw [← HE.out, List.drop_eq_nil_of_le (by rw [zgZ]; omega)]
    exact Lx.skip_end _) hm)
   go_wp2
   go_ret
   rw [HS.out]
   exact ⟨rfl, rfl⟩
end Go.Proofs.YtdncljdfmdgdaaaGreatDoor
namespace Go.Proofs.YtdncljdfmdgdaaaGreatDoor
open Go.RowKit
set_option linter.unusedSimpArgs false
set_option linter.unusedVariables false
def cutV (p : Nat) : Lx.Res → Value
 | .ok t n => .agg #[.int .i64 t.pos, .int .i64 t.kind, .string ⟨t.s.toArray⟩, .int .i64 t.n, .int .i64 ((p + n : Nat) : Int), .int .i64 0, .int .i64 0]
 | .bad y x => .agg #[.int .i64 0, .int .i64 0, .string ⟨#[]⟩, .int .i64 0, .int .i64 0, .int .i64 (y : Nat), .int .i64 (x : Nat)]
theorem zyZ (y x : Int) (w : World) : Calls Tryz.prog 170 #[.int .i64 y, .int .i64 x] w fun e w' => e = .returned (.agg #[.int .i64 0, .int .i64 0, .string ⟨#[]⟩, .int .i64 0, .int .i64 0, .int .i64 y, .int .i64 x]) ∧ Below w.heap.size w w' := by
 go_enter Tryz.func170, Tryz.ntmps170
 go_wp2
 refine bodyPost_ret (v := .agg #[.int .i64 0, .int .i64 0, .string ⟨#[]⟩, .int .i64 0, .int .i64 0, .int .i64 y, .int .i64 x]) (by simp [results, Tryz.results170, go_sem]) rfl ?_
 exact ⟨rfl, zdZ (World.grownBy_alloc _ _ _)⟩
def sgs : List Lx.Bytes := [[61, 61], [40], [41], [123], [125], [59], [58], [44], [46], [61], [60], [43], [45], [42]]
def sgCells : Array Value := (sgs.map fun s => Value.string ⟨s.toArray⟩).toArray
theorem zcyZ (m : Nat) (h : m < 14) : sgCells[m]? = some (.string ⟨(sgs.getD m []).toArray⟩) := by
 have hl : sgs.length = 14 := rfl
 unfold sgCells
 rw [List.getElem?_toArray, List.getElem?_map, List.getD_eq_getElem?_getD, List.getElem?_eq_getElem (by omega)]
 rfl
theorem zepZ (w : World) : Calls Tryz.prog 139 #[] w fun e w' => e = .returned (.slice (some ⟨w.heap.size, 0, none⟩) 14 14) ∧ w' = w.alloc (.cells sgCells 9) := by
 go_enter Tryz.func139, Tryz.ntmps139
 go_wp2
 go_ret
 exact ⟨rfl, rfl⟩
def isWord (l : Lx.Bytes) : Bool := Lx.words.contains l
set_option maxHeartbeats 4000000 in
theorem refWord (s : ByteArray) (w : World) : Calls Tryz.prog 181 #[.string s] w fun e w' => e = .returned (.bool (isWord s.data.toList)) ∧ Below w.heap.size w w' := by
 go_enter Tryz.func181, Tryz.ntmps181
 go_upto_region 2 with (go_at_call 192; refine (zmaZ _).mono ?_; rintro e W1 ⟨rfl, hWe⟩; rw [hWe]; clear hWe)
 have hblk := heap_alloc_new w (.cells wordCells 9)
 have hb := zdZ (World.grownBy_alloc w (.cells wordCells 9) none)
 obtain ⟨W2, hW2⟩ : ∃ W2, w.alloc (.cells wordCells 9) = W2 := ⟨_, rfl⟩
 rw [hW2] at hblk hb ⊢
 have HW := Lib.hid hblk
 have hgl := zaZ hblk
 clear hblk hW2
 go_wp2_with fail
 go_loopg [4] 25 (fun n v wr => ∃ (m : Nat), n = 25 - m ∧ v = .int .i64 (m : Int) ∧ m ≤ 25 ∧ wr = W2 ∧ (Lx.words.take m).contains s.data.toList = false)
 case atStart => exact ⟨0, rfl, rfl, Nat.zero_le _, rfl, rfl⟩
 case round =>
  obtain ⟨m, hn, rfl, hm, rfl, hc⟩ := hrel
  have HN := Lib.hid hn
  have HC := Lib.hid hc
  clear hn hc
  by_cases hlt : m < 25
  ·have hi2 : (m : Int) < 25 := by omega
   have hi0 : (0 : Int) ≤ (m : Int) := by omega
   have t0 := (cell_of HW.out m).trans (zgoZ m hlt)
   have hgr := zeuZ m hlt s.data.toList
   rw [HC.out, Bool.false_or] at hgr
   obtain ⟨x, hx⟩ : ∃ x, Lx.words.getD m [] = x := ⟨_, rfl⟩
   have hmem : x ∈ Lx.words := by
    rw [← hx, List.getD_eq_getElem?_getD, List.getElem?_eq_getElem (show m < Lx.words.length from hlt)]
    exact List.getElem_mem _
   rw [hx] at t0 hgr
   have hcmp : (x == s.toList) = (x == s.data.toList) := by rw [ByteArray.toList_eq]
   cases hq : (x == s.data.toList) with
   | true =>
    rw [hq] at hcmp
    have HR := Lib.hid (show isWord s.data.toList = true by
     unfold isWord
     rw [List.contains_iff_mem, ← show x = s.data.toList by simpa using hq]
     exact hmem)
    clear hgr hx hq hmem
    go_wp2
    go_ret
    rw [HR.out]
    exact ⟨rfl, hb⟩
   | false =>
    rw [hq] at hcmp hgr
    have HG := Lib.hid hgr
    clear hgr hx hq hmem
    go_wp2
    go_roundg (25 - (m + 1))
    case measure => have := HN.out; omega
    case rel => exact ⟨m + 1, rfl, by simp, hlt, rfl, HG.out⟩
  ·have hi2 : ¬ (m : Int) < 25 := by omega
   have hme : m = 25 := by omega
   have HR := Lib.hid (show isWord s.data.toList = false by have := HC.out; rw [hme] at this; exact this)
   go_wp2
   go_ret
   rw [HR.out]
   exact ⟨rfl, hb⟩
def firsts : Lx.Bytes := [61, 40, 41, 123, 125, 59, 58, 44, 46, 61, 60, 43, 45, 42]
theorem zdvZ (b : UInt8) : firsts.contains b = Lx.signs.contains b := by
 have h1 : ∀ x ∈ firsts, x ∈ Lx.signs := by decide
 have h2 : ∀ x ∈ Lx.signs, x ∈ firsts := by decide
 rw [Bool.eq_iff_iff, List.contains_iff_mem, List.contains_iff_mem]
 exact ⟨h1 b, h2 b⟩
theorem znaZ (m : Nat) (h : m < 14) : ∃ (x : Lx.Bytes), sgs.getD m [] = firsts.getD m 0 :: x := by
 have key : ((List.range 14).all fun m => (sgs.getD m []).head? == some (firsts.getD m 0)) = true := by decide
 have := List.all_eq_true.1 key m (List.mem_range.2 h)
 cases hs : sgs.getD m [] with
 | nil => rw [hs] at this; simp at this
 | cons a x =>
  rw [hs] at this
  have : a = firsts.getD m 0 := by simpa using this
  exact ⟨x, by rw [this]⟩
theorem zggZ (l : Lx.Bytes) (m : Nat) (h : m < l.length) (b : UInt8) : (l.take (m + 1)).contains b = ((l.take m).contains b || (l.getD m 0 == b)) := by
 rw [List.take_succ_eq_append_getElem h, List.getD_eq_getElem?_getD, List.getElem?_eq_getElem h, Bool.eq_iff_iff]
 simp only [List.contains_iff_mem, List.mem_append, List.mem_singleton, Bool.or_eq_true, beq_iff_eq, Option.getD_some]
 exact ⟨fun h => h.imp id Eq.symm, fun h => h.imp id Eq.symm⟩
set_option maxRecDepth 100000 in
set_option maxHeartbeats 4000000 in
theorem zkiZ (b : UInt8) (w : World) : Calls Tryz.prog 151 #[.int .u8 (b.toNat : Int)] w fun e w' => e = .returned (.bool (Lx.begins b)) ∧ Below w.heap.size w w' := by
 have hw : Lx.begins b = (Lx.small b || Lx.great b || Lx.digit b || (b.toNat == 34) || firsts.contains b) := by
  rw [zdvZ]; rfl
 by_cases hfirst : (Lx.small b || Lx.great b || Lx.digit b || (b.toNat == 34)) = true
 ·have HW := Lib.hid (show Lx.begins b = true by rw [hw, hfirst]; rfl)
  have h4 : Lx.small b = true ∨ (Lx.small b = false ∧ Lx.great b = true) ∨ (Lx.small b = false ∧ Lx.great b = false ∧ Lx.digit b = true) ∨ (Lx.small b = false ∧ Lx.great b = false ∧ Lx.digit b = false ∧ ((b.toNat : Int) == 34) = true) := by
   simp only [Bool.or_eq_true, beq_iff_eq] at hfirst ⊢
   cases hs : Lx.small b <;> cases hg : Lx.great b <;> cases hd : Lx.digit b <;> simp [hs, hg, hd] at hfirst ⊢ <;> omega
  clear hw hfirst
  rcases h4 with hs | ⟨hs, hg⟩ | ⟨hs, hg, hd⟩ | ⟨hs, hg, hd, b34⟩
  all_goals
   go_enter Tryz.func151, Tryz.ntmps151
   go_wp2_with (first
    | (go_at_call 164; refine (zbcZ _ _).mono ?_; rw [hs]; rintro e w' ⟨rfl, rfl⟩)
    | (go_at_call 165; refine (zrZ _ _).mono ?_; rw [hg]; rintro e w' ⟨rfl, rfl⟩)
    | (go_at_call 166; refine (zxZ _ _).mono ?_; rw [hd]; rintro e w' ⟨rfl, rfl⟩))
   go_ret
   rw [HW.out]
   exact ⟨rfl, Below.refl _ _⟩
 ·have hf2 : (Lx.small b || Lx.great b || Lx.digit b || (b.toNat == 34)) = false := by simpa using hfirst
  have HW := Lib.hid (show Lx.begins b = firsts.contains b by rw [hw, hf2]; rfl)
  simp only [Bool.or_eq_false_iff] at hf2
  obtain ⟨⟨⟨hs, hg⟩, hd⟩, h34⟩ := hf2
  have b34 : ((b.toNat : Int) == 34) = false := by simp at h34 ⊢; omega
  clear hw hfirst h34
  go_enter Tryz.func151, Tryz.ntmps151
  go_upto_region 4 with (first
    | (go_at_call 164; refine (zbcZ _ _).mono ?_; rw [hs]; rintro e w' ⟨rfl, rfl⟩)
    | (go_at_call 165; refine (zrZ _ _).mono ?_; rw [hg]; rintro e w' ⟨rfl, rfl⟩)
    | (go_at_call 166; refine (zxZ _ _).mono ?_; rw [hd]; rintro e w' ⟨rfl, rfl⟩)
    | (go_at_call 139; refine (zepZ _).mono ?_; rintro e W1 ⟨rfl, hWe⟩; rw [hWe]; clear hWe))
  have hblk := heap_alloc_new w (.cells sgCells 9)
  have hb := zdZ (World.grownBy_alloc w (.cells sgCells 9) none)
  obtain ⟨W2, hW2⟩ : ∃ W2, w.alloc (.cells sgCells 9) = W2 := ⟨_, rfl⟩
  rw [hW2] at hblk hb ⊢
  have HB := Lib.hid hblk
  have hgl := zaZ hblk
  clear hblk hW2
  go_wp2_with fail
  go_loopg [4] 14 (fun n v wr => ∃ (m : Nat), n = 14 - m ∧ v = .int .i64 (m : Int) ∧ m ≤ 14 ∧ wr = W2 ∧ (firsts.take m).contains b = false)
  case atStart => exact ⟨0, rfl, rfl, Nat.zero_le _, rfl, rfl⟩
  case round =>
   obtain ⟨m, hn, rfl, hm, rfl, hc⟩ := hrel
   have HN := Lib.hid hn
   have HC := Lib.hid hc
   clear hn hc
   by_cases hlt : m < 14
   ·have hi2 : (m : Int) < 14 := by omega
    have hi0 : (0 : Int) ≤ (m : Int) := by omega
    have t0 := (cell_of HB.out m).trans (zcyZ m hlt)
    obtain ⟨x, hx⟩ := znaZ m hlt
    have hst := zggZ firsts m hlt b
    rw [HC.out, Bool.false_or] at hst
    obtain ⟨f, hf⟩ : ∃ f, firsts.getD m 0 = f := ⟨_, rfl⟩
    rw [hx, hf] at t0
    rw [hf] at hst
    obtain ⟨S, hS⟩ : ∃ S : ByteArray, (⟨(f :: x).toArray⟩ : ByteArray) = S := ⟨_, rfl⟩
    rw [hS] at t0
    have hS0 : 0 < S.size := by rw [← hS]; show 0 < (f :: x).length; simp
    have hSi : (0 : Int) < (S.size : Int) := by omega
    have hSf : S[0]'hS0 = f := by subst hS; rfl
    have hcmp : ((f.toNat : Int) == (b.toNat : Int)) = (f == b) := by
     rw [Bool.eq_iff_iff]
     simp only [beq_iff_eq]
     exact ⟨fun h => UInt8.toNat_inj.1 (by omega), fun h => by rw [h]⟩
    have hmemf : f ∈ firsts := by
     rw [← hf, List.getD_eq_getElem?_getD, List.getElem?_eq_getElem (show m < firsts.length from hlt)]
     exact List.getElem_mem _
    cases hq : (f == b) with
    | true =>
     rw [hq] at hcmp
     have HR := Lib.hid (show firsts.contains b = true by
      rw [List.contains_iff_mem, ← show f = b by simpa using hq]
      exact hmemf)
     clear hst hx hf hq hmemf hS
     go_wp2
     go_ret
     rw [HW.out, HR.out]
     exact ⟨rfl, hb⟩
    | false =>
     rw [hq] at hcmp hst
     have HG := Lib.hid hst
     clear hst hx hf hq hmemf hS
     go_wp2
     go_roundg (14 - (m + 1))
     case measure => have := HN.out; omega
     case rel => exact ⟨m + 1, rfl, by simp, hlt, rfl, HG.out⟩
   ·have hi2 : ¬ (m : Int) < 14 := by omega
    have hme : m = 14 := by omega
    have HR := Lib.hid (show firsts.contains b = false by have := HC.out; rw [hme] at this; exact this)
    go_wp2
    go_ret
    rw [HW.out, HR.out]
    exact ⟨rfl, hb⟩
end Go.Proofs.YtdncljdfmdgdaaaGreatDoor
namespace Go.Proofs.YtdncljdfmdgdaaaGreatDoor
open Go.RowKit
set_option linter.unusedSimpArgs false
set_option linter.unusedVariables false
theorem zeZ {w : World} {g t : Nat} {a b c d e f h : Value} (hh : w.heap[g]? = some (.cells #[a, b, c, d, e, f, h] t (0, 0))) :
  (w.cell? ⟨g, 0, none⟩ = some a ∧ w.cell? ⟨g, 1, none⟩ = some b ∧ w.cell? ⟨g, 2, none⟩ = some c ∧ w.cell? ⟨g, 3, none⟩ = some d ∧ w.cell? ⟨g, 4, none⟩ = some e ∧ w.cell? ⟨g, 5, none⟩ = some f ∧ w.cell? ⟨g, 6, none⟩ = some h) ∧
  (w.frozen? ⟨g, 0, none⟩ = false ∧ w.frozen? ⟨g, 1, none⟩ = false ∧ w.frozen? ⟨g, 2, none⟩ = false ∧ w.frozen? ⟨g, 3, none⟩ = false ∧ w.frozen? ⟨g, 4, none⟩ = false ∧ w.frozen? ⟨g, 5, none⟩ = false ∧ w.frozen? ⟨g, 6, none⟩ = false) ∧ g < w.heap.size :=
 ⟨⟨cell_of hh 0, cell_of hh 1, cell_of hh 2, cell_of hh 3, cell_of hh 4, cell_of hh 5, cell_of hh 6⟩, ⟨free_of hh 0, free_of hh 1, free_of hh 2, free_of hh 3, free_of hh 4, free_of hh 5, free_of hh 6⟩, zaZ hh⟩
theorem BSet {w W : World} {g j : Nat} {v : Value} (h : Below w.heap.size w W) (hg : w.heap.size ≤ g) : Below w.heap.size w (W.setCell ⟨g, j, none⟩ v) := Below.turn h (zhZ W g j v) (fun r e => by injection e with e; omega)
theorem BAlloc {w W : World} {o : Obj} (h : Below w.heap.size w W) : Below w.heap.size w (W.alloc o) := h.alloc h.size o
theorem Below.chain {w W X : World} (h : Below w.heap.size w W) (h' : Below W.heap.size W X) : Below w.heap.size w X := h.trans (h'.mono h.size)
theorem zfiZ {l : Lx.Bytes} {c : UInt8} (h : isWord l = true) (hc : l.head? = some c) : Lx.great c = false := by
 have key : ∀ x ∈ Lx.words, (x.head?.map Lx.great).getD false = false := by decide
 have := key l (List.contains_iff_mem.1 h)
 rw [hc] at this
 simpa using this
set_option maxRecDepth 100000 in
set_option maxHeartbeats 4000000 in
theorem refName (s : ByteArray) (k : Nat) (w : World) (hk : k < s.size) (hs : s.size ≤ 140737488351232) (hl : Lx.letter (s[k]'hk) = true) :
  Calls Tryz.prog 167 #[.string s, .int .i64 (k : Int)] w fun e w' => e = .returned (cutV k (Lx.cutName k (s.data.toList.drop k))) ∧ Below w.heap.size w w' := by
 have hsi : (s.size : Int) ≤ 140737488351232 := by omega
 have hki : (k : Int) ≤ (s.size : Int) := by omega
 have hk0 : (0 : Int) ≤ (k : Int) := by omega
 go_enter Tryz.func167, Tryz.ntmps167
 go_upto_region 1 with fail
 have hblk := heap_alloc_new w (.cells #[.int .i64 0, .int .i64 0, .string ⟨#[]⟩, .int .i64 0, .int .i64 0, .int .i64 0, .int .i64 0] 193)
 have hb := zdZ (World.grownBy_alloc w (.cells #[.int .i64 0, .int .i64 0, .string ⟨#[]⟩, .int .i64 0, .int .i64 0, .int .i64 0, .int .i64 0] 193) none)
 obtain ⟨W1, hW1⟩ : ∃ W1, w.alloc (.cells #[.int .i64 0, .int .i64 0, .string ⟨#[]⟩, .int .i64 0, .int .i64 0, .int .i64 0, .int .i64 0] 193) = W1 := ⟨_, rfl⟩
 rw [hW1] at hblk hb ⊢
 have HBLK := Lib.hid hblk
 have hrl := zaZ hblk
 clear hblk hW1
 go_wp2_with fail
 go_loopg [5] (s.size - k) (fun n v wr => ∃ m : Nat, n = s.size - m ∧ v = .int .i64 (m : Int) ∧ k ≤ m ∧ m ≤ s.size ∧ m ≤ k + 32 ∧ wr = W1 ∧ (s.data.toList.drop k).takeWhile Lx.within = (s.data.toList.drop k).take (m - k) ++ (s.data.toList.drop m).takeWhile Lx.within)
 case atStart => exact ⟨k, rfl, rfl, Nat.le_refl _, by omega, by omega, rfl, by simp⟩
 case round =>
  obtain ⟨m, hn, rfl, hkm, hm, hm32, rfl, he⟩ := hrel
  have HE := Lib.hid he
  have HN := Lib.hid hn
  clear he hn
  have hi0 : (0 : Int) ≤ (m : Int) := by omega
  have hkmi : (k : Int) ≤ (m : Int) := by omega
  by_cases hlt : m < s.size
  ·have hi : (m : Int) < (s.size : Int) := by omega
   have HD0 := Lib.hid (byte_at s m hlt)
   cases hwi : Lx.within (s[m]'hlt) with
   | true =>
    by_cases h32 : m = k + 32
    ·have hB : ((m : Int) - (k : Int) == 32) = true := by simp; omega
     have HR := Lib.hid (zdyZ h32 hlt hwi HE.out)
     have H32 := Lib.hid h32
     clear h32
     have hgc := zeoZ (s[m]'hlt) wr
     rw [hwi] at hgc
     have hwr := zyZ 2 (m : Int) wr
     clear hwi
     go_wp2_with (first
      | (go_at_call 180; refine hgc.mono ?_; clear hgc; rintro e w' ⟨rfl, hwe⟩; rw [← hwe]; clear hwe)
      | (go_at_call 170; refine hwr.mono ?_; clear hwr; rintro e W3 ⟨rfl, hb3⟩; obtain ⟨⟨a0, a1, a2, a3, a4, a5, a6⟩, ⟨f0, f1, f2, f3, f4, f5, f6⟩, hl3⟩ := zeZ ((hb3.block _ hrl).trans HBLK.out)))
     refine bodyPost_ret (v := .agg #[.int .i64 0, .int .i64 0, .string ⟨#[]⟩, .int .i64 0, .int .i64 0, .int .i64 2, .int .i64 (m : Int)]) (by simp [results, Tryz.results167, go_sem, a0, a1, a2, a3, a4, a5, a6, f0, f1, f2, f3, f4, f5, f6, hl3]) rfl ?_
     rw [HR.out, ← H32.out]
     have hbf := Below.chain hb hb3
     refine ⟨rfl, ?_⟩
     repeat (first | (with_reducible exact hbf) | with_reducible refine BSet ?_ (Nat.le_refl _))
    ·have hB : ((m : Int) - (k : Int) == 32) = false := by simp; omega
     have HG := Lib.hid (zbfZ s k m hkm hlt)
     have hgc := zeoZ (s[m]'hlt) wr
     rw [hwi] at hgc
     have HW := Lib.hid hwi
     clear hwi
     go_wp2_with (go_at_call 180; refine hgc.mono ?_; clear hgc; rintro e w' ⟨rfl, hwe⟩; rw [← hwe]; clear hwe)
     go_roundg (s.size - (m + 1))
     case measure => have := HN.out; omega
     case rel =>
      refine ⟨m + 1, rfl, by simp, by omega, hlt, by omega, rfl, ?_⟩
      rw [HG.out, HE.out, HD0.out, List.takeWhile_cons, if_pos HW.out]
      simp
   | false =>
    have hfin : (s.data.toList.drop k).takeWhile Lx.within = (s.data.toList.drop k).take (m - k) := by
     have e := HE.out
     rw [HD0.out, List.takeWhile_cons, hwi] at e
     simpa using e
    have HF := Lib.hid hfin
    have hkm' : k < m := by
     rcases Nat.lt_or_ge k m with h | h
     ·exact h
     ·exfalso
      have e := HF.out
      rw [byte_at s k hk, List.takeWhile_cons, if_pos (by simp [Lx.within, hl]), show m - k = 0 from by omega] at e
      simp at e
    have HR := Lib.hid (zcqZ (by omega) hm hm32 HF.out)
    have hkmi2 : (m : Int) ≤ (s.size : Int) := by omega
    have hki2 : (k : Int) < (s.size : Int) := by omega
    obtain ⟨S, hS⟩ : ∃ S : ByteArray, s.extract k m = S := ⟨_, rfl⟩
    have hSd : S.data.toList = (s.data.toList.drop k).take (m - k) := by rw [← hS, zuZ]
    have hcell2 : (⟨((s.data.toList.drop k).take (m - k)).toArray⟩ : ByteArray) = S := by rw [← hSd, mk_back]
    have hhead : ((s.data.toList.drop k).take (m - k)).head? = some (s[k]'hk) := by
     rw [byte_at s k hk]
     obtain ⟨j, hj⟩ : ∃ j, m - k = j + 1 := ⟨m - k - 1, by omega⟩
     rw [hj, List.take_succ_cons]
     rfl
    obtain ⟨c, hc⟩ : ∃ c, s[k]'hk = c := ⟨_, rfl⟩
    rw [hc] at hhead
    have hnk : Lx.nameKind ((s.data.toList.drop k).take (m - k)) = if isWord S.data.toList then 3 else if Lx.great c then 2 else 1 := by
     unfold Lx.nameKind isWord
     rw [hhead, hSd, Option.map_some, Option.getD_some]
    have HNK := Lib.hid hnk
    have HX := Lib.hid (show isWord S.data.toList = true → Lx.great c = false from fun h => zfiZ h (by rw [hSd]; exact hhead))
    have HC2 := Lib.hid hcell2
    have hgr := fun X => zrZ c X
    have hwd := fun X => refWord S X
    obtain ⟨wb, hwb⟩ : ∃ wb, isWord S.data.toList = wb := ⟨_, rfl⟩
    obtain ⟨gb, hgb⟩ : ∃ gb, Lx.great c = gb := ⟨_, rfl⟩
    rw [hwb] at HNK
    rw [hgb] at HNK
    rw [hwb, hgb] at HX
    obtain ⟨⟨p0, p1, p2, p3, p4, p5, p6⟩, ⟨g0, g1, g2, g3, g4, g5, g6⟩, hl0⟩ := zeZ HBLK.out
    rw [hwb] at hwd
    rw [hgb] at hgr
    have hblkr := HBLK.out
    clear hfin hnk hhead hSd hcell2 hwb hgb HE HN
    have hgc := zeoZ (s[m]'hlt) wr
    rw [hwi] at hgc
    clear hwi
    cases gb <;> cases wb
    all_goals try (exact absurd (HX.out rfl) (by decide))
    all_goals
     go_wp2_with (first
      | (go_at_call 180; refine hgc.mono ?_; clear hgc; rintro e w' ⟨rfl, hwe⟩; rw [← hwe]; clear hwe)
      | (go_at_call 165; refine (hgr _).mono ?_; rintro e w' ⟨rfl, hwe⟩; rw [← hwe]; clear hwe)
      | (go_at_call 181; refine (hwd _).mono ?_; rintro e W5 ⟨rfl, hb5⟩; obtain ⟨⟨a0, a1, a2, a3, a4, a5, a6⟩, ⟨f0, f1, f2, f3, f4, f5, f6⟩, hl5⟩ := zeZ ((hb5.block _ (by simp; omega)).trans (heap_alloc hblkr _)); have hT5 := (hb5.block wr.heap.size (by simp)).trans (heap_alloc_new wr _); obtain ⟨t0, t1, t2, t3⟩ := zfZ hT5; obtain ⟨e0, e1, e2, e3⟩ := zjZ hT5; have hlt5 := zaZ hT5; have hbf := Below.chain (BAlloc hb) hb5))
    ·refine bodyPost_ret (v := .agg #[.int .i64 (k : Int), .int .i64 1, .string S, .int .i64 0, .int .i64 (m : Int), .int .i64 0, .int .i64 0]) (by simp [results, Tryz.results167, go_sem, a0, a1, a2, a3, a4, a5, a6, f0, f1, f2, f3, f4, f5, f6, hl5]) rfl ?_
     rw [HR.out]
     refine ⟨?_, ?_⟩
     ·unfold cutV
      simp only [HC2.out]
      rw [show k + (m - k) = m by omega, HNK.out]
      rfl
     ·repeat (first | (with_reducible exact hbf) | (with_reducible exact hb) | (with_reducible refine BSet ?_ (Nat.le_refl _)) | (with_reducible refine BSet ?_ hb.size) | (with_reducible refine BAlloc ?_))
    ·refine bodyPost_ret (v := .agg #[.int .i64 (k : Int), .int .i64 3, .string S, .int .i64 0, .int .i64 (m : Int), .int .i64 0, .int .i64 0]) (by simp [results, Tryz.results167, go_sem, a0, a1, a2, a3, a4, a5, a6, f0, f1, f2, f3, f4, f5, f6, hl5]) rfl ?_
     rw [HR.out]
     refine ⟨?_, ?_⟩
     ·unfold cutV
      simp only [HC2.out]
      rw [show k + (m - k) = m by omega, HNK.out]
      rfl
     ·repeat (first | (with_reducible exact hbf) | (with_reducible exact hb) | (with_reducible refine BSet ?_ (Nat.le_refl _)) | (with_reducible refine BSet ?_ hb.size) | (with_reducible refine BAlloc ?_))
    ·refine bodyPost_ret (v := .agg #[.int .i64 (k : Int), .int .i64 2, .string S, .int .i64 0, .int .i64 (m : Int), .int .i64 0, .int .i64 0]) (by simp [results, Tryz.results167, go_sem, p0, p1, p2, p3, p4, p5, p6, g0, g1, g2, g3, g4, g5, g6, hl0]) rfl ?_
     rw [HR.out]
     refine ⟨?_, ?_⟩
     ·unfold cutV
      simp only [HC2.out]
      rw [show k + (m - k) = m by omega, HNK.out]
      rfl
     ·repeat (first | (with_reducible exact hb) | (with_reducible refine BSet ?_ (Nat.le_refl _)) | (with_reducible refine BSet ?_ hb.size) | (with_reducible refine BAlloc ?_))
  ·have hi : ¬ (m : Int) < (s.size : Int) := by omega
   have hfin : (s.data.toList.drop k).takeWhile Lx.within = (s.data.toList.drop k).take (m - k) := by
    have e := HE.out
    rw [List.drop_eq_nil_of_le (show s.data.toList.length ≤ m by rw [zgZ]; omega)] at e
    simpa using e
   have HF := Lib.hid hfin
   have hkm' : k < m := by
    rcases Nat.lt_or_ge k m with h | h
    ·exact h
    ·exfalso
     have e := HF.out
     rw [byte_at s k hk, List.takeWhile_cons, if_pos (by simp [Lx.within, hl]), show m - k = 0 from by omega] at e
     simp at e
   have HR := Lib.hid (zcqZ (by omega) hm hm32 HF.out)
   have hkmi2 : (m : Int) ≤ (s.size : Int) := by omega
   have hki2 : (k : Int) < (s.size : Int) := by omega
   obtain ⟨S, hS⟩ : ∃ S : ByteArray, s.extract k m = S := ⟨_, rfl⟩
   have hSd : S.data.toList = (s.data.toList.drop k).take (m - k) := by rw [← hS, zuZ]
   have hcell2 : (⟨((s.data.toList.drop k).take (m - k)).toArray⟩ : ByteArray) = S := by rw [← hSd, mk_back]
   have hhead : ((s.data.toList.drop k).take (m - k)).head? = some (s[k]'hk) := by
    rw [byte_at s k hk]
    obtain ⟨j, hj⟩ : ∃ j, m - k = j + 1 := ⟨m - k - 1, by omega⟩
    rw [hj, List.take_succ_cons]
    rfl
   obtain ⟨c, hc⟩ : ∃ c, s[k]'hk = c := ⟨_, rfl⟩
   rw [hc] at hhead
   have hnk : Lx.nameKind ((s.data.toList.drop k).take (m - k)) = if isWord S.data.toList then 3 else if Lx.great c then 2 else 1 := by
    unfold Lx.nameKind isWord
    rw [hhead, hSd, Option.map_some, Option.getD_some]
   have HNK := Lib.hid hnk
   have HX := Lib.hid (show isWord S.data.toList = true → Lx.great c = false from fun h => zfiZ h (by rw [hSd]; exact hhead))
   have HC2 := Lib.hid hcell2
   have hgr := fun X => zrZ c X
   have hwd := fun X => refWord S X
   obtain ⟨wb, hwb⟩ : ∃ wb, isWord S.data.toList = wb := ⟨_, rfl⟩
   obtain ⟨gb, hgb⟩ : ∃ gb, Lx.great c = gb := ⟨_, rfl⟩
   rw [hwb] at HNK
   rw [hgb] at HNK
   rw [hwb, hgb] at HX
   obtain ⟨⟨p0, p1, p2, p3, p4, p5, p6⟩, ⟨g0, g1, g2, g3, g4, g5, g6⟩, hl0⟩ := zeZ HBLK.out
   rw [hwb] at hwd
   rw [hgb] at hgr
   have hblkr := HBLK.out
   clear hfin hnk hhead hSd hcell2 hwb hgb HE HN
   cases gb <;> cases wb
   all_goals try (exact absurd (HX.out rfl) (by decide))
   all_goals
    go_wp2_with (first
     | (go_at_call 165; refine (hgr _).mono ?_; rintro e w' ⟨rfl, hwe⟩; rw [← hwe]; clear hwe)
     | (go_at_call 181; refine (hwd _).mono ?_; rintro e W5 ⟨rfl, hb5⟩; obtain ⟨⟨a0, a1, a2, a3, a4, a5, a6⟩, ⟨f0, f1, f2, f3, f4, f5, f6⟩, hl5⟩ := zeZ ((hb5.block _ (by simp; omega)).trans (heap_alloc hblkr _)); have hT5 := (hb5.block wr.heap.size (by simp)).trans (heap_alloc_new wr _); obtain ⟨t0, t1, t2, t3⟩ := zfZ hT5; obtain ⟨e0, e1, e2, e3⟩ := zjZ hT5; have hlt5 := zaZ hT5; have hbf := Below.chain (BAlloc hb) hb5))
   ·refine bodyPost_ret (v := .agg #[.int .i64 (k : Int), .int .i64 1, .string S, .int .i64 0, .int .i64 (m : Int), .int .i64 0, .int .i64 0]) (by simp [results, Tryz.results167, go_sem, a0, a1, a2, a3, a4, a5, a6, f0, f1, f2, f3, f4, f5, f6, hl5]) rfl ?_
    rw [HR.out]
    refine ⟨?_, ?_⟩
    ·unfold cutV
     simp only [HC2.out]
     rw [show k + (m - k) = m by omega, HNK.out]
     rfl
    ·repeat (first | (with_reducible exact hbf) | (with_reducible exact hb) | (with_reducible refine BSet ?_ (Nat.le_refl _)) | (with_reducible refine BSet ?_ hb.size) | (with_reducible refine BAlloc ?_))
   ·refine bodyPost_ret (v := .agg #[.int .i64 (k : Int), .int .i64 3, .string S, .int .i64 0, .int .i64 (m : Int), .int .i64 0, .int .i64 0]) (by simp [results, Tryz.results167, go_sem, a0, a1, a2, a3, a4, a5, a6, f0, f1, f2, f3, f4, f5, f6, hl5]) rfl ?_
    rw [HR.out]
    refine ⟨?_, ?_⟩
    ·unfold cutV
     simp only [HC2.out]
     rw [show k + (m - k) = m by omega, HNK.out]
     rfl
    ·repeat (first | (with_reducible exact hbf) | (with_reducible exact hb) | (with_reducible refine BSet ?_ (Nat.le_refl _)) | (with_reducible refine BSet ?_ hb.size) | (with_reducible refine BAlloc ?_))
   ·refine bodyPost_ret (v := .agg #[.int .i64 (k : Int), .int .i64 2, .string S, .int .i64 0, .int .i64 (m : Int), .int .i64 0, .int .i64 0]) (by simp [results, Tryz.results167, go_sem, p0, p1, p2, p3, p4, p5, p6, g0, g1, g2, g3, g4, g5, g6, hl0]) rfl ?_
    rw [HR.out]
    refine ⟨?_, ?_⟩
    ·unfold cutV
     simp only [HC2.out]
     rw [show k + (m - k) = m by omega, HNK.out]
     rfl
    ·repeat (first | (with_reducible exact hb) | (with_reducible refine BSet ?_ (Nat.le_refl _)) | (with_reducible refine BSet ?_ hb.size) | (with_reducible refine BAlloc ?_))
end Go.Proofs.YtdncljdfmdgdaaaGreatDoor
