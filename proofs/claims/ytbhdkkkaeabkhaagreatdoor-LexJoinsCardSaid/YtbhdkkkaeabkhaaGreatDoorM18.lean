/-
  The walk of coilref1.Digits.
  coilref1.One.
  coilref1.Quote.
-/
import Derived.Test.YtbhdkkkaeabkhaaGreatDoorM17
import Derived.Deep.RegionHeld3
import Derived.BigRegion
import Derived.Test.YtbhdkkkaeabkhaaGreatDoorM13
import Derived.Test.YtbhdkkkaeabkhaaGreatDoorM9
namespace Go.Proofs.YtbhdkkkaeabkhaaGreatDoor
open Go.RowKit Go.Shelf
set_option linter.unusedSimpArgs false
set_option linter.unusedVariables false

theorem strOne (W : World) (c : UInt8) : (convert 66 9 (.slice (some ⟨W.heap.size, 0, none⟩) 1 1)).run Tryz.prog (W.alloc (.cells #[.int .u8 (c.toNat : Int)] 5)) = .ok (.string ⟨#[c]⟩) (W.alloc (.cells #[.int .u8 (c.toNat : Int)] 5)) :=
  strByte (ownNew W W.heap.size c (Nat.le_refl _))

theorem strBack {X W : World} {c : UInt8} (h : LW (X.alloc (.cells #[.int .u8 (c.toNat : Int)] 5)).drew W) : (convert 66 9 (.slice (some ⟨X.heap.size, 0, none⟩) 1 1)).run Tryz.prog W = .ok (.string ⟨#[c]⟩) W := by
  refine strByte (base := X.heap.size) (l := [c]) ⟨rfl, .inr ⟨X.heap.size, 1, #[.int .u8 (c.toNat : Int)], rfl, Nat.le_refl _, ?_, Nat.le_refl _, by unfold maxLen; omega, rfl, rfl⟩⟩
  exact (h.b.block _ (by show X.heap.size < (X.alloc _).heap.size; simp)).trans (heap_alloc_new X _)
set_option maxRecDepth 100000 in
set_option maxHeartbeats 4000000 in
theorem refDigits : ∀ (n : Nat) (w : World), n ≤ 9223372036854775807 → GL w → NG ≤ w.heap.size →
    Calls Tryz.prog 37 #[.int .i64 n] w fun e w' => e = .returned (.string ⟨(Lib.decDigits n).toArray⟩) ∧ LW w w' := by
  intro n
  induction n using Nat.strongRecOn with
  | _ n ih =>
    intro w hn hG hN
    have H0 := LW.refl hG hN
    by_cases hlt : n < 10
    · have hi : (n : Int) < 10 := by omega
      have hd : Lib.decDigits n = [UInt8.ofNat (48 + n)] := Lib.decDigits_one hlt
      obtain ⟨c, hc⟩ : ∃ c : UInt8, UInt8.ofNat (48 + n) = c := ⟨_, rfl⟩
      have hcn : (48 : Int) + (n : Int) = (c.toNat : Int) := by
        rw [← hc, UInt8.toNat_ofNat']
        omega
      rw [hd, hc]
      have hso := fun W => strOne W c
      clear hd hc ih
      go_enter Tryz.func37, Tryz.ntmps37
      go_wp2
      go_ret
      exact ⟨rfl, H0.alloc _⟩
    · have hi : ¬ (n : Int) < 10 := by omega
      have hd := Lx.decDigits_step n (by omega)
      obtain ⟨c, hc⟩ : ∃ c : UInt8, UInt8.ofNat (48 + n % 10) = c := ⟨_, rfl⟩
      have hcn : (48 : Int) + (n : Int) % 10 = (c.toNat : Int) := by
        rw [← hc, UInt8.toNat_ofNat']
        omega
      have hmod : (n : Int).tmod 10 = (n : Int) % 10 := by rw [Int.tmod_eq_emod_of_nonneg (by omega)]
      have hcl : c.toNat < 256 := c.toNat_lt
      have hw2 : IntKind.i64.wrap (c.toNat : Int) = (c.toNat : Int) := (by rw [IntKind.wrap_i64]; omega)
      have hw3 : IntKind.u8.wrap (c.toNat : Int) = (c.toNat : Int) := (by rw [IntKind.wrap_u8]; omega)
      have hlen : (Lib.decDigits (n / 10)).length ≤ 20 := by
        rw [Lib.decDigits_length]
        have := nD_le 19 (n / 10) (by omega)
        omega
      have hrec2 : ∀ W, LW w W → Calls Tryz.prog 37 #[.int .i64 ((n / 10 : Nat) : Int)] W fun e W' => e = .returned (.string ⟨(Lib.decDigits (n / 10)).toArray⟩) ∧ LW W W' := fun W h => ih (n / 10) (by omega) W (by omega) h.g h.n
      obtain ⟨B, hB⟩ : ∃ B : ByteArray, (⟨(Lib.decDigits (n / 10)).toArray⟩ : ByteArray) = B := ⟨_, rfl⟩
      have hBs : (B.size : Int) ≤ 20 := by
        rw [← hB]
        show (((Lib.decDigits (n / 10)).length : Nat) : Int) ≤ 20
        omega
      have hres : (⟨(Lib.decDigits n).toArray⟩ : ByteArray) = B ++ ⟨#[c]⟩ := by
        rw [hd, hc, ← hB]
        apply ByteArray.ext
        rw [ByteArray.data_append]
        simp
      rw [hres]
      rw [hB] at hrec2
      have hso := fun W => strOne W c
      obtain ⟨k, hk⟩ : ∃ k, n / 10 = k := ⟨_, rfl⟩
      have hw1 : IntKind.i64.wrap ((n : Int) / 10) = (k : Int) := by rw [IntKind.wrap_i64]; omega
      rw [hk] at hrec2
      clear hk
      clear hd hc ih hlen hB hres
      go_enter Tryz.func37, Tryz.ntmps37
      go_wp2
      have hso1 : (convert 66 9 (.slice (some ⟨w.heap.size, 0, none⟩) 1 1)).run Tryz.prog (w.alloc (.cells #[.int .u8 (c.toNat : Int)] 5)).drew = .ok (.string ⟨#[c]⟩) (w.alloc (.cells #[.int .u8 (c.toNat : Int)] 5)).drew := strOne w.drew c
      have HD : LW w w.drew := H0.drewN 1
      have HA : LW w (w.alloc (.cells #[.int .u8 (c.toNat : Int)] 5)).drew := HD.alloc _
      have hrD := hrec2 _ HD
      have hrA := hrec2 _ HA
      clear hrec2
      go_region_with (first
        | (go_at_call 37; with_reducible refine hrD.mono ?_; rintro e W5 ⟨rfl, h5⟩; have h6 := HD.trans h5)
        | (go_at_call 37; with_reducible refine hrA.mono ?_; rintro e W5 ⟨rfl, h5⟩; have h6 := HA.trans h5; have hcv := strBack (X := w) h5))
      all_goals
        go_wp2
        go_ret
        exact ⟨rfl, by first | exact h6 | exact h6.alloc _⟩

end Go.Proofs.YtbhdkkkaeabkhaaGreatDoor

namespace Go.Proofs.YtbhdkkkaeabkhaaGreatDoor
open Go.RowKit
set_option linter.unusedSimpArgs false
set_option linter.unusedVariables false

set_option maxRecDepth 100000 in
set_option maxHeartbeats 4000000 in
theorem one_name1 (w : World) (p k n : Int) (S : ByteArray) (hG : GL w) (hN : NG ≤ w.heap.size) (hs : S.size ≤ 1000000) (hn0 : -9223372036854775808 ≤ n) (hn1 : n ≤ 9223372036854775807) (hk : k = 1) :
    Calls Tryz.prog 55 #[.agg #[.int .i64 p, .int .i64 k, .string S, .int .i64 n]] w fun e w' => e = .returned (.tuple #[.string S, .bool (Lx.nameOk ⟨p, k, S.data.toList, n⟩)]) ∧ LW w w' := by
  have hsi : (S.size : Int) ≤ 1000000 := by omega
  have H0 := LW.refl hG hN
  go_enter Tryz.func55, Tryz.ntmps55
  have hB := heap_alloc_new w (.cells #[.int .i64 p, .int .i64 k, .string S, .int .i64 n] 26)
  have hW := H0.alloc (.cells #[.int .i64 p, .int .i64 k, .string S, .int .i64 n] 26)
  obtain ⟨b0, b1, b2, b3⟩ := four_cells hB
  have HB := Lib.hid hB
  clear hB H0
  have e1 : (k == 1) = true := by simp; omega
  clear hk
  go_upto_block 0 with fail
  obtain ⟨w2, hw2⟩ : ∃ w2, w.alloc (.cells #[.int .i64 p, .int .i64 k, .string S, .int .i64 n] 26) = w2 := ⟨_, rfl⟩
  rw [hw2] at b0 b1 b2 b3 HB hW ⊢
  have hz2 : w.heap.size < w2.heap.size := lt_of_block HB.out
  have HW := Lib.hid hW
  clear hw2 hW
  have htk := fun X => refTokens S X (by omega)
  go_upto_region 6 with (go_at_call 24; refine (htk _).mono ?_; clear htk; rintro e W5 ⟨v5, rfl, ho5, hb5⟩)
  have HW5 := Lib.hid (HW.out.go hb5)
  have hB5 := (hb5.block _ hz2).trans HB.out
  obtain ⟨c0, c1, c2, c3⟩ := four_cells hB5
  have hl5 := lt_of_block hB5
  obtain ⟨ts, hts⟩ : ∃ ts, (Lx.toks S.data.toList).1 = ts := ⟨_, rfl⟩
  obtain ⟨o, ho⟩ : ∃ o, (Lx.toks S.data.toList).2 = o := ⟨_, rfl⟩
  rw [hts] at ho5
  rw [ho]
  have HT := Lib.hid (show Lx.toks S.data.toList = (ts, o) from Prod.ext hts ho)
  obtain ⟨A0, cap0, hv⟩ := ho5.slice
  subst hv
  have HO := Lib.hid ho5
  clear hts ho b0 b1 b2 b3 hB5 ho5
  rcases o with _ | ⟨y, x⟩
  · rw [show whyR none = 0 from rfl, show placeR none = 0 from rfl]
    by_cases h1 : ts.length = 1
    · obtain ⟨x, hx⟩ := List.length_eq_one_iff.1 h1
      subst hx
      clear h1
      rw [show ([x] : List Lx.Tok).length = 1 from rfl]
      have hti := HO.out.toks
      obtain ⟨g, cur, fr, hA, hg, hcur⟩ := hti.at (m := 0) (by simp)
      subst hA
      obtain ⟨t0, t1, t2, t3⟩ := toks_at hg hcur (m := 0) (by simp)
      have hgl := lt_of_block hg
      obtain ⟨X, hX⟩ : ∃ X : ByteArray, (⟨x.s.toArray⟩ : ByteArray) = X := ⟨_, rfl⟩
      have x1 : W5.cell? ⟨g, 1, none⟩ = some (.int .i64 x.kind) := by simpa using t1
      have x2 : W5.cell? ⟨g, 2, none⟩ = some (.string X) := by rw [← hX]; simpa using t2
      have hcs : (X.toList == S.toList) = (x.s == S.data.toList) := by rw [← hX, ByteArray.toList_mk, ByteArray.toList_eq]
      have HR := Lib.hid (show Lx.nameOk ⟨p, k, S.data.toList, n⟩ = (x.kind == k && (x.s == S.data.toList && n == 0)) by
        unfold Lx.nameOk
        simp only
        rw [HT.out])
      clear t0 t1 t2 t3 hg hcur hti hX
      cases hk : (x.kind == k) with
      | false =>
        rw [hk] at HR
        go_quiet (fail)
        go_wp2_with fail
        refine bodyPost_ret (results_tmp2 rfl _ _ _) rfl ?_
        rw [HR.out]
        exact ⟨rfl, HW5.out.drewN _⟩
      | true =>
        cases hsx : (x.s == S.data.toList) with
        | false =>
          rw [hk, hsx] at HR
          rw [hsx] at hcs
          clear hsx
          go_quiet (fail)
          go_wp2_with fail
          refine bodyPost_ret (results_tmp2 rfl _ _ _) rfl ?_
          rw [HR.out]
          exact ⟨rfl, HW5.out.drewN _⟩
        | true =>
          rw [hk, hsx] at HR
          rw [hsx] at hcs
          clear hsx
          cases hn : (n == 0) with
          | false =>
            rw [hn] at HR
            go_quiet (fail)
            go_wp2_with fail
            refine bodyPost_ret (results_tmp2 rfl _ _ _) rfl ?_
            rw [HR.out]
            exact ⟨rfl, HW5.out.drewN _⟩
          | true =>
            rw [hn] at HR
            go_quiet (fail)
            go_wp2_with fail
            refine bodyPost_ret (results_tmp2 rfl _ _ _) rfl ?_
            rw [HR.out]
            exact ⟨rfl, HW5.out.drewN _⟩
    · have hlb : ((ts.length : Int) == 1) = false := by simp; omega
      have HR := Lib.hid (show Lx.nameOk ⟨p, k, S.data.toList, n⟩ = false by
        unfold Lx.nameOk
        simp only
        rw [HT.out]
        match ts, h1 with
        | [], _ => rfl
        | [a], h => exact absurd rfl h
        | a :: b :: l, _ => rfl)
      clear h1
      go_quiet (fail)
      go_wp2_with fail
      refine bodyPost_ret (results_tmp2 rfl _ _ _) rfl ?_
      rw [HR.out]
      exact ⟨rfl, HW5.out.drewN _⟩
  · rw [show whyR (some (y, x)) = (y : Int) from rfl, show placeR (some (y, x)) = (x : Int) from rfl]
    have hyn := Lx.toks_why HT.out
    have hyb : ((y : Int) == 0) = false := by simp; omega
    have HR := Lib.hid (show Lx.nameOk ⟨p, k, S.data.toList, n⟩ = false by
      unfold Lx.nameOk
      simp only
      rw [HT.out]
      match ts with
      | [] => rfl
      | [a] => rfl
      | a :: b :: l => rfl)
    clear hyn
    go_quiet (fail)
    go_wp2_with fail
    refine bodyPost_ret (results_tmp2 rfl _ _ _) rfl ?_
    rw [HR.out]
    exact ⟨rfl, HW5.out.drewN _⟩
set_option maxRecDepth 100000 in
set_option maxHeartbeats 4000000 in
theorem one_name2 (w : World) (p k n : Int) (S : ByteArray) (hG : GL w) (hN : NG ≤ w.heap.size) (hs : S.size ≤ 1000000) (hn0 : -9223372036854775808 ≤ n) (hn1 : n ≤ 9223372036854775807) (hk : k = 2) :
    Calls Tryz.prog 55 #[.agg #[.int .i64 p, .int .i64 k, .string S, .int .i64 n]] w fun e w' => e = .returned (.tuple #[.string S, .bool (Lx.nameOk ⟨p, k, S.data.toList, n⟩)]) ∧ LW w w' := by
  have hsi : (S.size : Int) ≤ 1000000 := by omega
  have H0 := LW.refl hG hN
  go_enter Tryz.func55, Tryz.ntmps55
  have hB := heap_alloc_new w (.cells #[.int .i64 p, .int .i64 k, .string S, .int .i64 n] 26)
  have hW := H0.alloc (.cells #[.int .i64 p, .int .i64 k, .string S, .int .i64 n] 26)
  obtain ⟨b0, b1, b2, b3⟩ := four_cells hB
  have HB := Lib.hid hB
  clear hB H0
  have e1 : (k == 1) = false := by simp; omega
  have e2 : (k == 2) = true := by simp; omega
  clear hk
  go_upto_block 0 with fail
  obtain ⟨w2, hw2⟩ : ∃ w2, w.alloc (.cells #[.int .i64 p, .int .i64 k, .string S, .int .i64 n] 26) = w2 := ⟨_, rfl⟩
  rw [hw2] at b0 b1 b2 b3 HB hW ⊢
  have hz2 : w.heap.size < w2.heap.size := lt_of_block HB.out
  have HW := Lib.hid hW
  clear hw2 hW
  have htk := fun X => refTokens S X (by omega)
  go_upto_region 6 with (go_at_call 24; refine (htk _).mono ?_; clear htk; rintro e W5 ⟨v5, rfl, ho5, hb5⟩)
  have HW5 := Lib.hid (HW.out.go hb5)
  have hB5 := (hb5.block _ hz2).trans HB.out
  obtain ⟨c0, c1, c2, c3⟩ := four_cells hB5
  have hl5 := lt_of_block hB5
  obtain ⟨ts, hts⟩ : ∃ ts, (Lx.toks S.data.toList).1 = ts := ⟨_, rfl⟩
  obtain ⟨o, ho⟩ : ∃ o, (Lx.toks S.data.toList).2 = o := ⟨_, rfl⟩
  rw [hts] at ho5
  rw [ho]
  have HT := Lib.hid (show Lx.toks S.data.toList = (ts, o) from Prod.ext hts ho)
  obtain ⟨A0, cap0, hv⟩ := ho5.slice
  subst hv
  have HO := Lib.hid ho5
  clear hts ho b0 b1 b2 b3 hB5 ho5
  rcases o with _ | ⟨y, x⟩
  · rw [show whyR none = 0 from rfl, show placeR none = 0 from rfl]
    by_cases h1 : ts.length = 1
    · obtain ⟨x, hx⟩ := List.length_eq_one_iff.1 h1
      subst hx
      clear h1
      rw [show ([x] : List Lx.Tok).length = 1 from rfl]
      have hti := HO.out.toks
      obtain ⟨g, cur, fr, hA, hg, hcur⟩ := hti.at (m := 0) (by simp)
      subst hA
      obtain ⟨t0, t1, t2, t3⟩ := toks_at hg hcur (m := 0) (by simp)
      have hgl := lt_of_block hg
      obtain ⟨X, hX⟩ : ∃ X : ByteArray, (⟨x.s.toArray⟩ : ByteArray) = X := ⟨_, rfl⟩
      have x1 : W5.cell? ⟨g, 1, none⟩ = some (.int .i64 x.kind) := by simpa using t1
      have x2 : W5.cell? ⟨g, 2, none⟩ = some (.string X) := by rw [← hX]; simpa using t2
      have hcs : (X.toList == S.toList) = (x.s == S.data.toList) := by rw [← hX, ByteArray.toList_mk, ByteArray.toList_eq]
      have HR := Lib.hid (show Lx.nameOk ⟨p, k, S.data.toList, n⟩ = (x.kind == k && (x.s == S.data.toList && n == 0)) by
        unfold Lx.nameOk
        simp only
        rw [HT.out])
      clear t0 t1 t2 t3 hg hcur hti hX
      cases hk : (x.kind == k) with
      | false =>
        rw [hk] at HR
        go_quiet (fail)
        go_wp2_with fail
        refine bodyPost_ret (results_tmp2 rfl _ _ _) rfl ?_
        rw [HR.out]
        exact ⟨rfl, HW5.out.drewN _⟩
      | true =>
        cases hsx : (x.s == S.data.toList) with
        | false =>
          rw [hk, hsx] at HR
          rw [hsx] at hcs
          clear hsx
          go_quiet (fail)
          go_wp2_with fail
          refine bodyPost_ret (results_tmp2 rfl _ _ _) rfl ?_
          rw [HR.out]
          exact ⟨rfl, HW5.out.drewN _⟩
        | true =>
          rw [hk, hsx] at HR
          rw [hsx] at hcs
          clear hsx
          cases hn : (n == 0) with
          | false =>
            rw [hn] at HR
            go_quiet (fail)
            go_wp2_with fail
            refine bodyPost_ret (results_tmp2 rfl _ _ _) rfl ?_
            rw [HR.out]
            exact ⟨rfl, HW5.out.drewN _⟩
          | true =>
            rw [hn] at HR
            go_quiet (fail)
            go_wp2_with fail
            refine bodyPost_ret (results_tmp2 rfl _ _ _) rfl ?_
            rw [HR.out]
            exact ⟨rfl, HW5.out.drewN _⟩
    · have hlb : ((ts.length : Int) == 1) = false := by simp; omega
      have HR := Lib.hid (show Lx.nameOk ⟨p, k, S.data.toList, n⟩ = false by
        unfold Lx.nameOk
        simp only
        rw [HT.out]
        match ts, h1 with
        | [], _ => rfl
        | [a], h => exact absurd rfl h
        | a :: b :: l, _ => rfl)
      clear h1
      go_quiet (fail)
      go_wp2_with fail
      refine bodyPost_ret (results_tmp2 rfl _ _ _) rfl ?_
      rw [HR.out]
      exact ⟨rfl, HW5.out.drewN _⟩
  · rw [show whyR (some (y, x)) = (y : Int) from rfl, show placeR (some (y, x)) = (x : Int) from rfl]
    have hyn := Lx.toks_why HT.out
    have hyb : ((y : Int) == 0) = false := by simp; omega
    have HR := Lib.hid (show Lx.nameOk ⟨p, k, S.data.toList, n⟩ = false by
      unfold Lx.nameOk
      simp only
      rw [HT.out]
      match ts with
      | [] => rfl
      | [a] => rfl
      | a :: b :: l => rfl)
    clear hyn
    go_quiet (fail)
    go_wp2_with fail
    refine bodyPost_ret (results_tmp2 rfl _ _ _) rfl ?_
    rw [HR.out]
    exact ⟨rfl, HW5.out.drewN _⟩
set_option maxRecDepth 100000 in
set_option maxHeartbeats 4000000 in
theorem one_name3 (w : World) (p k n : Int) (S : ByteArray) (hG : GL w) (hN : NG ≤ w.heap.size) (hs : S.size ≤ 1000000) (hn0 : -9223372036854775808 ≤ n) (hn1 : n ≤ 9223372036854775807) (hk : k = 3) :
    Calls Tryz.prog 55 #[.agg #[.int .i64 p, .int .i64 k, .string S, .int .i64 n]] w fun e w' => e = .returned (.tuple #[.string S, .bool (Lx.nameOk ⟨p, k, S.data.toList, n⟩)]) ∧ LW w w' := by
  have hsi : (S.size : Int) ≤ 1000000 := by omega
  have H0 := LW.refl hG hN
  go_enter Tryz.func55, Tryz.ntmps55
  have hB := heap_alloc_new w (.cells #[.int .i64 p, .int .i64 k, .string S, .int .i64 n] 26)
  have hW := H0.alloc (.cells #[.int .i64 p, .int .i64 k, .string S, .int .i64 n] 26)
  obtain ⟨b0, b1, b2, b3⟩ := four_cells hB
  have HB := Lib.hid hB
  clear hB H0
  have e1 : (k == 1) = false := by simp; omega
  have e2 : (k == 2) = false := by simp; omega
  have e3 : (k == 3) = true := by simp; omega
  clear hk
  go_upto_block 0 with fail
  obtain ⟨w2, hw2⟩ : ∃ w2, w.alloc (.cells #[.int .i64 p, .int .i64 k, .string S, .int .i64 n] 26) = w2 := ⟨_, rfl⟩
  rw [hw2] at b0 b1 b2 b3 HB hW ⊢
  have hz2 : w.heap.size < w2.heap.size := lt_of_block HB.out
  have HW := Lib.hid hW
  clear hw2 hW
  have htk := fun X => refTokens S X (by omega)
  go_upto_region 6 with (go_at_call 24; refine (htk _).mono ?_; clear htk; rintro e W5 ⟨v5, rfl, ho5, hb5⟩)
  have HW5 := Lib.hid (HW.out.go hb5)
  have hB5 := (hb5.block _ hz2).trans HB.out
  obtain ⟨c0, c1, c2, c3⟩ := four_cells hB5
  have hl5 := lt_of_block hB5
  obtain ⟨ts, hts⟩ : ∃ ts, (Lx.toks S.data.toList).1 = ts := ⟨_, rfl⟩
  obtain ⟨o, ho⟩ : ∃ o, (Lx.toks S.data.toList).2 = o := ⟨_, rfl⟩
  rw [hts] at ho5
  rw [ho]
  have HT := Lib.hid (show Lx.toks S.data.toList = (ts, o) from Prod.ext hts ho)
  obtain ⟨A0, cap0, hv⟩ := ho5.slice
  subst hv
  have HO := Lib.hid ho5
  clear hts ho b0 b1 b2 b3 hB5 ho5
  rcases o with _ | ⟨y, x⟩
  · rw [show whyR none = 0 from rfl, show placeR none = 0 from rfl]
    by_cases h1 : ts.length = 1
    · obtain ⟨x, hx⟩ := List.length_eq_one_iff.1 h1
      subst hx
      clear h1
      rw [show ([x] : List Lx.Tok).length = 1 from rfl]
      have hti := HO.out.toks
      obtain ⟨g, cur, fr, hA, hg, hcur⟩ := hti.at (m := 0) (by simp)
      subst hA
      obtain ⟨t0, t1, t2, t3⟩ := toks_at hg hcur (m := 0) (by simp)
      have hgl := lt_of_block hg
      obtain ⟨X, hX⟩ : ∃ X : ByteArray, (⟨x.s.toArray⟩ : ByteArray) = X := ⟨_, rfl⟩
      have x1 : W5.cell? ⟨g, 1, none⟩ = some (.int .i64 x.kind) := by simpa using t1
      have x2 : W5.cell? ⟨g, 2, none⟩ = some (.string X) := by rw [← hX]; simpa using t2
      have hcs : (X.toList == S.toList) = (x.s == S.data.toList) := by rw [← hX, ByteArray.toList_mk, ByteArray.toList_eq]
      have HR := Lib.hid (show Lx.nameOk ⟨p, k, S.data.toList, n⟩ = (x.kind == k && (x.s == S.data.toList && n == 0)) by
        unfold Lx.nameOk
        simp only
        rw [HT.out])
      clear t0 t1 t2 t3 hg hcur hti hX
      cases hk : (x.kind == k) with
      | false =>
        rw [hk] at HR
        go_quiet (fail)
        go_wp2_with fail
        refine bodyPost_ret (results_tmp2 rfl _ _ _) rfl ?_
        rw [HR.out]
        exact ⟨rfl, HW5.out.drewN _⟩
      | true =>
        cases hsx : (x.s == S.data.toList) with
        | false =>
          rw [hk, hsx] at HR
          rw [hsx] at hcs
          clear hsx
          go_quiet (fail)
          go_wp2_with fail
          refine bodyPost_ret (results_tmp2 rfl _ _ _) rfl ?_
          rw [HR.out]
          exact ⟨rfl, HW5.out.drewN _⟩
        | true =>
          rw [hk, hsx] at HR
          rw [hsx] at hcs
          clear hsx
          cases hn : (n == 0) with
          | false =>
            rw [hn] at HR
            go_quiet (fail)
            go_wp2_with fail
            refine bodyPost_ret (results_tmp2 rfl _ _ _) rfl ?_
            rw [HR.out]
            exact ⟨rfl, HW5.out.drewN _⟩
          | true =>
            rw [hn] at HR
            go_quiet (fail)
            go_wp2_with fail
            refine bodyPost_ret (results_tmp2 rfl _ _ _) rfl ?_
            rw [HR.out]
            exact ⟨rfl, HW5.out.drewN _⟩
    · have hlb : ((ts.length : Int) == 1) = false := by simp; omega
      have HR := Lib.hid (show Lx.nameOk ⟨p, k, S.data.toList, n⟩ = false by
        unfold Lx.nameOk
        simp only
        rw [HT.out]
        match ts, h1 with
        | [], _ => rfl
        | [a], h => exact absurd rfl h
        | a :: b :: l, _ => rfl)
      clear h1
      go_quiet (fail)
      go_wp2_with fail
      refine bodyPost_ret (results_tmp2 rfl _ _ _) rfl ?_
      rw [HR.out]
      exact ⟨rfl, HW5.out.drewN _⟩
  · rw [show whyR (some (y, x)) = (y : Int) from rfl, show placeR (some (y, x)) = (x : Int) from rfl]
    have hyn := Lx.toks_why HT.out
    have hyb : ((y : Int) == 0) = false := by simp; omega
    have HR := Lib.hid (show Lx.nameOk ⟨p, k, S.data.toList, n⟩ = false by
      unfold Lx.nameOk
      simp only
      rw [HT.out]
      match ts with
      | [] => rfl
      | [a] => rfl
      | a :: b :: l => rfl)
    clear hyn
    go_quiet (fail)
    go_wp2_with fail
    refine bodyPost_ret (results_tmp2 rfl _ _ _) rfl ?_
    rw [HR.out]
    exact ⟨rfl, HW5.out.drewN _⟩

end Go.Proofs.YtbhdkkkaeabkhaaGreatDoor

namespace Go.Proofs.YtbhdkkkaeabkhaaGreatDoor
open Go.RowKit
set_option linter.unusedSimpArgs false
set_option linter.unusedVariables false

theorem esc_ten {c : UInt8} (h : c.toNat = 10) : Lx.esc c = [92, 110] := by simp [Lx.esc, h]
theorem esc_mark {c : UInt8} (h : ¬ c.toNat = 10) (h2 : c.toNat = 34 ∨ c.toNat = 92) : Lx.esc c = [92, c] := by
  simp only [Lx.esc, beq_iff_eq, h, if_false, Bool.or_eq_true, h2, if_true]
theorem esc_other {c : UInt8} (h : ¬ c.toNat = 10) (h2 : ¬ (c.toNat = 34 ∨ c.toNat = 92)) : Lx.esc c = [c] := by
  simp only [Lx.esc, beq_iff_eq, h, if_false, Bool.or_eq_true, h2]
theorem quote_step {s : ByteArray} {m : Nat} (hlt : m < s.size) {l : Lx.Bytes} (hl : l = 34 :: Lx.quoteIn (s.data.toList.take m)) : 34 :: Lx.quoteIn (s.data.toList.take (m + 1)) = l ++ Lx.esc (s[m]'hlt) := by
  rw [take_one s m hlt, Lx.quoteIn_append, hl]
  have e : Lx.quoteIn [s[m]'hlt] = Lx.esc (s[m]'hlt) := by rw [Lx.quoteIn_cons]; simp [Lx.quoteIn]
  rw [e]
  rfl
theorem app_data (a b : ByteArray) : (a ++ b).data.toList = a.data.toList ++ b.data.toList := by rw [ByteArray.data_append]; simp
theorem quote_size {s A : ByteArray} {m : Nat} (hm : m ≤ s.size) (hA : A.data.toList = 34 :: Lx.quoteIn (s.data.toList.take m)) : A.size ≤ 2 * m + 1 := by
  rw [← len_size, hA, List.length_cons]
  have := Lx.quoteIn_len (s.data.toList.take m)
  rw [List.length_take, len_size] at this
  omega

set_option maxHeartbeats 4000000 in
theorem refQuote (s : ByteArray) (w : World) (hs : s.size ≤ 4000000) :
    Calls Tryz.prog 81 #[.string s] w fun e w' => e = .returned (.string ⟨(Lx.quote s.data.toList).toArray⟩) ∧ w' = w := by
  have hsi : (s.size : Int) ≤ 4000000 := by omega
  go_enter Tryz.func81, Tryz.ntmps81
  go_wp2
  go_loopg [3, 4] (s.size) (fun n v u wr => ∃ (m : Nat) (A : ByteArray), n = s.size - m ∧ v = .string A ∧ u = .int .i64 (m : Int) ∧ m ≤ s.size ∧ A.data.toList = 34 :: Lx.quoteIn (s.data.toList.take m) ∧ wr = w)
  case atStart => exact ⟨0, ⟨#[34]⟩, rfl, rfl, rfl, Nat.zero_le _, by simp [Lx.quoteIn], rfl⟩
  case round =>
    obtain ⟨m, A, hn, rfl, rfl, hm, hA, rfl⟩ := hrel
    have HN := Lib.hid hn
    have HA := Lib.hid hA
    have hAs := quote_size hm hA
    have hAi : (A.size : Int) ≤ 8000001 := by omega
    clear hn hA hAs
    have hi0 : (0 : Int) ≤ (m : Int) := by omega
    have hmi : (m : Int) ≤ 4000000 := by omega
    by_cases hlt : m < s.size
    · have hi : (m : Int) < (s.size : Int) := by omega
      have hi1 : (m : Int) + 1 ≤ (s.size : Int) := by omega
      have HE := Lib.hid (quote_step hlt HA.out)
      obtain ⟨B, hB⟩ : ∃ B : ByteArray, s.extract m (m + 1) = B := ⟨_, rfl⟩
      have hBd : B.data.toList = [s[m]'hlt] := by
        rw [← hB, ext_data, byte_at s m hlt, show m + 1 - m = 1 by omega]
        rfl
      have hBs : (B.size : Int) = 1 := by
        rw [← len_size, hBd]
        rfl
      have HBD := Lib.hid hBd
      clear hBd
      by_cases h10 : (s[m]'hlt).toNat = 10
      · have b10 := u8t _ 10 h10
        have HF := Lib.hid (HE.out.trans (by rw [esc_ten h10]))
        clear h10
        go_wp2
        go_roundg (s.size - (m + 1))
        case measure => have := HN.out; omega
        case rel => exact ⟨m + 1, _, rfl, rfl, by simp, hlt, by rw [app_data, HF.out, HA.out], rfl⟩
      · have b10 := u8f _ 10 h10
        by_cases hq : (s[m]'hlt).toNat = 34 ∨ (s[m]'hlt).toNat = 92
        · have HF := Lib.hid (HE.out.trans (by rw [esc_mark h10 hq]))
          by_cases h34 : (s[m]'hlt).toNat = 34
          · have b34 := u8t _ 34 h34
            clear h10 hq h34
            go_wp2
            go_roundg (s.size - (m + 1))
            case measure => have := HN.out; omega
            case rel => exact ⟨m + 1, _, rfl, rfl, by simp, hlt, by rw [app_data, app_data, HF.out, HA.out, HBD.out]; simp, rfl⟩
          · have b34 := u8f _ 34 h34
            have b92 := u8t _ 92 (by omega : (s[m]'hlt).toNat = 92)
            clear h10 hq h34
            go_wp2
            go_roundg (s.size - (m + 1))
            case measure => have := HN.out; omega
            case rel => exact ⟨m + 1, _, rfl, rfl, by simp, hlt, by rw [app_data, app_data, HF.out, HA.out, HBD.out]; simp, rfl⟩
        · have HF := Lib.hid (HE.out.trans (by rw [esc_other h10 hq]))
          have b34 := u8f _ 34 (by omega : ¬ (s[m]'hlt).toNat = 34)
          have b92 := u8f _ 92 (by omega : ¬ (s[m]'hlt).toNat = 92)
          clear h10 hq
          go_wp2
          go_roundg (s.size - (m + 1))
          case measure => have := HN.out; omega
          case rel => exact ⟨m + 1, _, rfl, rfl, by simp, hlt, by rw [app_data, HF.out, HA.out, HBD.out], rfl⟩
    · have hi : ¬ (m : Int) < (s.size : Int) := by omega
      have HQ := Lib.hid (show (A ++ ⟨#[34]⟩ : ByteArray) = ⟨(Lx.quote s.data.toList).toArray⟩ by
        apply ByteArray.ext
        rw [ByteArray.data_append]
        apply Array.toList_inj.1
        rw [Array.toList_append, HA.out, List.take_of_length_le (by rw [len_size]; omega)]
        rfl)
      go_wp2
      go_ret
      rw [HQ.out]
      exact ⟨rfl, rfl⟩

end Go.Proofs.YtbhdkkkaeabkhaaGreatDoor
