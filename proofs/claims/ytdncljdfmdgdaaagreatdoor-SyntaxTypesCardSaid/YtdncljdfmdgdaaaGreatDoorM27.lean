/-
  The walk of coilref1.Digits.
-/
/-
 The walk of coilref1.Digits.
 coilref1.One.
 coilref1.Quote.
 coilref1.One.
-/
import Derived.Test.YtdncljdfmdgdaaaGreatDoorM22
import Derived.Deep.RegionHeld3
import Derived.BigRegion
import Derived.Test.YtdncljdfmdgdaaaGreatDoorM26
import Derived.Test.YtdncljdfmdgdaaaGreatDoorM24
import Derived.Test.YtdncljdfmdgdaaaGreatDoorM7
namespace Go.Proofs.YtdncljdfmdgdaaaGreatDoor
open Go.RowKit Go.Shelf
set_option linter.unusedSimpArgs false
set_option linter.unusedVariables false
theorem strOne (W : World) (c : UInt8) : (convert 98 9 (.slice (some ⟨W.heap.size, 0, none⟩) 1 1)).run Tryz.prog (W.alloc (.cells #[.int .u8 (c.toNat : Int)] 5)) = .ok (.string ⟨#[c]⟩) (W.alloc (.cells #[.int .u8 (c.toNat : Int)] 5)) :=
 strByte (ownNew W W.heap.size c (Nat.le_refl _))
theorem strBack {X W : World} {c : UInt8} (h : LW (X.alloc (.cells #[.int .u8 (c.toNat : Int)] 5)).drew W) : (convert 98 9 (.slice (some ⟨X.heap.size, 0, none⟩) 1 1)).run Tryz.prog W = .ok (.string ⟨#[c]⟩) W := by
 refine strByte (base := X.heap.size) (l := [c]) ⟨rfl, .inr ⟨X.heap.size, 1, #[.int .u8 (c.toNat : Int)], rfl, Nat.le_refl _, ?_, Nat.le_refl _, by unfold maxLen; omega, rfl, rfl⟩⟩
 exact (h.b.block _ (by show X.heap.size < (X.alloc _).heap.size; simp)).trans (heap_alloc_new X _)
set_option maxRecDepth 100000 in
set_option maxHeartbeats 4000000 in
theorem zkpZ : ∀ (n : Nat) (w : World), n ≤ 9223372036854775807 → GL w → NG ≤ w.heap.size →
  Calls Tryz.prog 76 #[.int .i64 n] w fun e w' => e = .returned (.string ⟨(Lib.decDigits n).toArray⟩) ∧ LW w w' := by
 intro n
 induction n using Nat.strongRecOn with
 | _ n ih =>
  intro w hn hG hN
  have H0 := LW.refl hG hN
  by_cases hlt : n < 10
  ·have hi : (n : Int) < 10 := by omega
   have hd : Lib.decDigits n = [UInt8.ofNat (48 + n)] := Lib.decDigits_one hlt
   obtain ⟨c, hc⟩ : ∃ c : UInt8, UInt8.ofNat (48 + n) = c := ⟨_, rfl⟩
   have hcn : (48 : Int) + (n : Int) = (c.toNat : Int) := by
    rw [← hc, UInt8.toNat_ofNat']
    omega
   rw [hd, hc]
   have hso := fun W => strOne W c
   clear hd hc ih
   go_enter Tryz.func76, Tryz.ntmps76
   go_wp2
   go_ret
   exact ⟨rfl, H0.alloc _⟩
  ·have hi : ¬ (n : Int) < 10 := by omega
   have hd := Lx.decDigits_step n (by omega)
   obtain ⟨c, hc⟩ : ∃ c : UInt8, UInt8.ofNat (48 + n % 10) = c := ⟨_, rfl⟩
   have hcn : (48 : Int) + (n : Int) % 10 = (c.toNat : Int) := by
    rw [← hc, UInt8.toNat_ofNat']
    omega
   have hmod : (n : Int).tmod 10 = (n : Int) % 10 := by rw [Int.tmod_eq_emod_of_nonneg (by omega)]
   have hcl : c.toNat < 256 := c.toNat_lt
   have hw2 : IntKind.i64.wrap (c.toNat : Int) = (c.toNat : Int) := (by rw [IntKind.wrap_i64]; omega)
   have hw3 : IntKind.u8.wrap (c.toNat : Int) = (c.toNat : Int) := (by rw [IntKind.wrap_u8]; omega)
   have hlen : (Lib.decDigits (n / 10)).length ≤ 20 := by
    rw [Lib.decDigits_length]
    have := nD_le 19 (n / 10) (by omega)
    omega
   have hrec2 : ∀ W, LW w W → Calls Tryz.prog 76 #[.int .i64 ((n / 10 : Nat) : Int)] W fun e W' => e = .returned (.string ⟨(Lib.decDigits (n / 10)).toArray⟩) ∧ LW W W' := fun W h => ih (n / 10) (by omega) W (by omega) h.g h.n
   obtain ⟨B, hB⟩ : ∃ B : ByteArray, (⟨(Lib.decDigits (n / 10)).toArray⟩ : ByteArray) = B := ⟨_, rfl⟩
   have hBs : (B.size : Int) ≤ 20 := by
    rw [← hB]
    show (((Lib.decDigits (n / 10)).length : Nat) : Int) ≤ 20
    omega
   have hres : (⟨(Lib.decDigits n).toArray⟩ : ByteArray) = B ++ ⟨#[c]⟩ := by
    rw [hd, hc, ← hB]
    apply ByteArray.ext
    rw [ByteArray.data_append]
    simp
   rw [hres]
   rw [hB] at hrec2
   have hso := fun W => strOne W c
   obtain ⟨k, hk⟩ : ∃ k, n / 10 = k := ⟨_, rfl⟩
   have hw1 : IntKind.i64.wrap ((n : Int) / 10) = (k : Int) := by rw [IntKind.wrap_i64]; omega
   rw [hk] at hrec2
   clear hk
   clear hd hc ih hlen hB hres
   go_enter Tryz.func76, Tryz.ntmps76
   go_wp2
   have hso1 : (convert 98 9 (.slice (some ⟨w.heap.size, 0, none⟩) 1 1)).run Tryz.prog (w.alloc (.cells #[.int .u8 (c.toNat : Int)] 5)).drew = .ok (.string ⟨#[c]⟩) (w.alloc (.cells #[.int .u8 (c.toNat : Int)] 5)).drew := strOne w.drew c
   have HD : LW w w.drew := H0.drewN 1
   have HA : LW w (w.alloc (.cells #[.int .u8 (c.toNat : Int)] 5)).drew := HD.alloc _
   have hrD := hrec2 _ HD
   have hrA := hrec2 _ HA
   clear hrec2
   go_region_with (first
    | (go_at_call 76; with_reducible refine hrD.mono ?_; rintro e W5 ⟨rfl, h5⟩; have h6 := HD.trans h5)
    | (go_at_call 76; with_reducible refine hrA.mono ?_; rintro e W5 ⟨rfl, h5⟩; have h6 := HA.trans h5; have hcv := strBack (X := w) h5))
   all_goals
    go_wp2
    go_ret
    exact ⟨rfl, by first | exact h6 | exact h6.alloc _⟩
end Go.Proofs.YtdncljdfmdgdaaaGreatDoor
namespace Go.Proofs.YtdncljdfmdgdaaaGreatDoor
open Go.RowKit
set_option linter.unusedSimpArgs false
set_option linter.unusedVariables false
set_option maxRecDepth 100000 in
set_option maxHeartbeats 4000000 in
theorem zkqZ (w : World) (p k n : Int) (S : ByteArray) (hG : GL w) (hN : NG ≤ w.heap.size) (hs : S.size ≤ 1000000) (hn0 : -9223372036854775808 ≤ n) (hn1 : n ≤ 9223372036854775807) (hk : k = 1) :
  Calls Tryz.prog 122 #[.agg #[.int .i64 p, .int .i64 k, .string S, .int .i64 n]] w fun e w' => e = .returned (.tuple #[.string S, .bool (Lx.nameOk ⟨p, k, S.data.toList, n⟩)]) ∧ LW w w' := by
 have hsi : (S.size : Int) ≤ 1000000 := by omega
 have H0 := LW.refl hG hN
 go_enter Tryz.func122, Tryz.ntmps122
 have hB := heap_alloc_new w (.cells #[.int .i64 p, .int .i64 k, .string S, .int .i64 n] 133)
 have hW := H0.alloc (.cells #[.int .i64 p, .int .i64 k, .string S, .int .i64 n] 133)
 obtain ⟨b0, b1, b2, b3⟩ := zfZ hB
 have HB := Lib.hid hB
 clear hB H0
 have e1 : (k == 1) = true := by simp; omega
 clear hk
 go_upto_block 0 with fail
 obtain ⟨w2, hw2⟩ : ∃ w2, w.alloc (.cells #[.int .i64 p, .int .i64 k, .string S, .int .i64 n] 133) = w2 := ⟨_, rfl⟩
 rw [hw2] at b0 b1 b2 b3 HB hW ⊢
 have hz2 : w.heap.size < w2.heap.size := zaZ HB.out
 have HW := Lib.hid hW
 clear hw2 hW
 have htk := fun X => zdwZ S X (by omega)
 go_upto_region 6 with (go_at_call 138; refine (htk _).mono ?_; clear htk; rintro e W5 ⟨v5, rfl, ho5, hb5⟩)
 have HW5 := Lib.hid (HW.out.go hb5)
 have hB5 := (hb5.block _ hz2).trans HB.out
 obtain ⟨c0, c1, c2, c3⟩ := zfZ hB5
 have hl5 := zaZ hB5
 obtain ⟨ts, hts⟩ : ∃ ts, (Lx.toks S.data.toList).1 = ts := ⟨_, rfl⟩
 obtain ⟨o, ho⟩ : ∃ o, (Lx.toks S.data.toList).2 = o := ⟨_, rfl⟩
 rw [hts] at ho5
 rw [ho]
 have HT := Lib.hid (show Lx.toks S.data.toList = (ts, o) from Prod.ext hts ho)
 obtain ⟨A0, cap0, hv⟩ := ho5.slice
 subst hv
 have HO := Lib.hid ho5
 clear hts ho b0 b1 b2 b3 hB5 ho5
 rcases o with _ | ⟨y, x⟩
 ·rw [show whyR none = 0 from rfl, show placeR none = 0 from rfl]
  by_cases h1 : ts.length = 1
  ·obtain ⟨x, hx⟩ := List.length_eq_one_iff.1 h1
   subst hx
   clear h1
   rw [show ([x] : List Lx.Tok).length = 1 from rfl]
   have hti := HO.out.toks
   obtain ⟨g, cur, fr, hA, hg, hcur⟩ := hti.at (m := 0) (by simp)
   subst hA
   obtain ⟨t0, t1, t2, t3⟩ := toks_at hg hcur (m := 0) (by simp)
   have hgl := zaZ hg
   obtain ⟨X, hX⟩ : ∃ X : ByteArray, (⟨x.s.toArray⟩ : ByteArray) = X := ⟨_, rfl⟩
   have x1 : W5.cell? ⟨g, 1, none⟩ = some (.int .i64 x.kind) := by simpa using t1
   have x2 : W5.cell? ⟨g, 2, none⟩ = some (.string X) := by rw [← hX]; simpa using t2
   have hcs : (X.toList == S.toList) = (x.s == S.data.toList) := by rw [← hX, ByteArray.toList_mk, ByteArray.toList_eq]
   have HR := Lib.hid (show Lx.nameOk ⟨p, k, S.data.toList, n⟩ = (x.kind == k && (x.s == S.data.toList && n == 0)) by
    unfold Lx.nameOk
    simp only
    rw [HT.out])
   clear t0 t1 t2 t3 hg hcur hti hX
   cases hk : (x.kind == k) with
   | false =>
    rw [hk] at HR
    go_quiet (fail)
    go_wp2_with fail
    refine bodyPost_ret (results_tmp2 rfl _ _ _) rfl ?_
    rw [HR.out]
    exact ⟨rfl, HW5.out.drewN _⟩
   | true =>
    cases hsx : (x.s == S.data.toList) with
    | false =>
     rw [hk, hsx] at HR
     rw [hsx] at hcs
     clear hsx
     go_quiet (fail)
     go_wp2_with fail
     refine bodyPost_ret (results_tmp2 rfl _ _ _) rfl ?_
     rw [HR.out]
     exact ⟨rfl, HW5.out.drewN _⟩
    | true =>
     rw [hk, hsx] at HR
     rw [hsx] at hcs
     clear hsx
     cases hn : (n == 0) with
     | false =>
      rw [hn] at HR
      go_quiet (fail)
      go_wp2_with fail
      refine bodyPost_ret (results_tmp2 rfl _ _ _) rfl ?_
      rw [HR.out]
      exact ⟨rfl, HW5.out.drewN _⟩
     | true =>
      rw [hn] at HR
      go_quiet (fail)
      go_wp2_with fail
      refine bodyPost_ret (results_tmp2 rfl _ _ _) rfl ?_
      rw [HR.out]
      exact ⟨rfl, HW5.out.drewN _⟩
  ·have hlb : ((ts.length : Int) == 1) = false := by simp; omega
   have HR := Lib.hid (show Lx.nameOk ⟨p, k, S.data.toList, n⟩ = false by
    unfold Lx.nameOk
    simp only
    rw [HT.out]
    match ts, h1 with
    | [], _ => rfl
    | [a], h => exact absurd rfl h
    | a :: b :: l, _ => rfl)
   clear h1
   go_quiet (fail)
   go_wp2_with fail
   refine bodyPost_ret (results_tmp2 rfl _ _ _) rfl ?_
   rw [HR.out]
   exact ⟨rfl, HW5.out.drewN _⟩
 ·rw [show whyR (some (y, x)) = (y : Int) from rfl, show placeR (some (y, x)) = (x : Int) from rfl]
  have hyn := Lx.toks_why HT.out
  have hyb : ((y : Int) == 0) = false := by simp; omega
  have HR := Lib.hid (show Lx.nameOk ⟨p, k, S.data.toList, n⟩ = false by
   unfold Lx.nameOk
   simp only
   rw [HT.out]
   match ts with
   | [] => rfl
   | [a] => rfl
   | a :: b :: l => rfl)
  clear hyn
  go_quiet (fail)
  go_wp2_with fail
  refine bodyPost_ret (results_tmp2 rfl _ _ _) rfl ?_
  rw [HR.out]
  exact ⟨rfl, HW5.out.drewN _⟩
set_option maxRecDepth 100000 in
set_option maxHeartbeats 4000000 in
theorem zkrZ (w : World) (p k n : Int) (S : ByteArray) (hG : GL w) (hN : NG ≤ w.heap.size) (hs : S.size ≤ 1000000) (hn0 : -9223372036854775808 ≤ n) (hn1 : n ≤ 9223372036854775807) (hk : k = 2) :
  Calls Tryz.prog 122 #[.agg #[.int .i64 p, .int .i64 k, .string S, .int .i64 n]] w fun e w' => e = .returned (.tuple #[.string S, .bool (Lx.nameOk ⟨p, k, S.data.toList, n⟩)]) ∧ LW w w' := by
 have hsi : (S.size : Int) ≤ 1000000 := by omega
 have H0 := LW.refl hG hN
 go_enter Tryz.func122, Tryz.ntmps122
 have hB := heap_alloc_new w (.cells #[.int .i64 p, .int .i64 k, .string S, .int .i64 n] 133)
 have hW := H0.alloc (.cells #[.int .i64 p, .int .i64 k, .string S, .int .i64 n] 133)
 obtain ⟨b0, b1, b2, b3⟩ := zfZ hB
 have HB := Lib.hid hB
 clear hB H0
 have e1 : (k == 1) = false := by simp; omega
 have e2 : (k == 2) = true := by simp; omega
 clear hk
 go_upto_block 0 with fail
 obtain ⟨w2, hw2⟩ : ∃ w2, w.alloc (.cells #[.int .i64 p, .int .i64 k, .string S, .int .i64 n] 133) = w2 := ⟨_, rfl⟩
 rw [hw2] at b0 b1 b2 b3 HB hW ⊢
 have hz2 : w.heap.size < w2.heap.size := zaZ HB.out
 have HW := Lib.hid hW
 clear hw2 hW
 have htk := fun X => zdwZ S X (by omega)
 go_upto_region 6 with (go_at_call 138; refine (htk _).mono ?_; clear htk; rintro e W5 ⟨v5, rfl, ho5, hb5⟩)
 have HW5 := Lib.hid (HW.out.go hb5)
 have hB5 := (hb5.block _ hz2).trans HB.out
 obtain ⟨c0, c1, c2, c3⟩ := zfZ hB5
 have hl5 := zaZ hB5
 obtain ⟨ts, hts⟩ : ∃ ts, (Lx.toks S.data.toList).1 = ts := ⟨_, rfl⟩
 obtain ⟨o, ho⟩ : ∃ o, (Lx.toks S.data.toList).2 = o := ⟨_, rfl⟩
 rw [hts] at ho5
 rw [ho]
 have HT := Lib.hid (show Lx.toks S.data.toList = (ts, o) from Prod.ext hts ho)
 obtain ⟨A0, cap0, hv⟩ := ho5.slice
 subst hv
 have HO := Lib.hid ho5
 clear hts ho b0 b1 b2 b3 hB5 ho5
 rcases o with _ | ⟨y, x⟩
 ·rw [show whyR none = 0 from rfl, show placeR none = 0 from rfl]
  by_cases h1 : ts.length = 1
  ·obtain ⟨x, hx⟩ := List.length_eq_one_iff.1 h1
   subst hx
   clear h1
   rw [show ([x] : List Lx.Tok).length = 1 from rfl]
   have hti := HO.out.toks
   obtain ⟨g, cur, fr, hA, hg, hcur⟩ := hti.at (m := 0) (by simp)
   subst hA
   obtain ⟨t0, t1, t2, t3⟩ := toks_at hg hcur (m := 0) (by simp)
   have hgl := zaZ hg
   obtain ⟨X, hX⟩ : ∃ X : ByteArray, (⟨x.s.toArray⟩ : ByteArray) = X := ⟨_, rfl⟩
   have x1 : W5.cell? ⟨g, 1, none⟩ = some (.int .i64 x.kind) := by simpa using t1
   have x2 : W5.cell? ⟨g, 2, none⟩ = some (.string X) := by rw [← hX]; simpa using t2
   have hcs : (X.toList == S.toList) = (x.s == S.data.toList) := by rw [← hX, ByteArray.toList_mk, ByteArray.toList_eq]
   have HR := Lib.hid (show Lx.nameOk ⟨p, k, S.data.toList, n⟩ = (x.kind == k && (x.s == S.data.toList && n == 0)) by
    unfold Lx.nameOk
    simp only
    rw [HT.out])
   clear t0 t1 t2 t3 hg hcur hti hX
   cases hk : (x.kind == k) with
   | false =>
    rw [hk] at HR
    go_quiet (fail)
    go_wp2_with fail
    refine bodyPost_ret (results_tmp2 rfl _ _ _) rfl ?_
    rw [HR.out]
    exact ⟨rfl, HW5.out.drewN _⟩
   | true =>
    cases hsx : (x.s == S.data.toList) with
    | false =>
     rw [hk, hsx] at HR
     rw [hsx] at hcs
     clear hsx
     go_quiet (fail)
     go_wp2_with fail
     refine bodyPost_ret (results_tmp2 rfl _ _ _) rfl ?_
     rw [HR.out]
     exact ⟨rfl, HW5.out.drewN _⟩
    | true =>
     rw [hk, hsx] at HR
     rw [hsx] at hcs
     clear hsx
     cases hn : (n == 0) with
     | false =>
      rw [hn] at HR
      go_quiet (fail)
      go_wp2_with fail
      refine bodyPost_ret (results_tmp2 rfl _ _ _) rfl ?_
      rw [HR.out]
      exact ⟨rfl, HW5.out.drewN _⟩
     | true =>
      rw [hn] at HR
      go_quiet (fail)
      go_wp2_with fail
      refine bodyPost_ret (results_tmp2 rfl _ _ _) rfl ?_
      rw [HR.out]
      exact ⟨rfl, HW5.out.drewN _⟩
  ·have hlb : ((ts.length : Int) == 1) = false := by simp; omega
   have HR := Lib.hid (show Lx.nameOk ⟨p, k, S.data.toList, n⟩ = false by
    unfold Lx.nameOk
    simp only
    rw [HT.out]
    match ts, h1 with
    | [], _ => rfl
    | [a], h => exact absurd rfl h
    | a :: b :: l, _ => rfl)
   clear h1
   go_quiet (fail)
   go_wp2_with fail
   refine bodyPost_ret (results_tmp2 rfl _ _ _) rfl ?_
   rw [HR.out]
   exact ⟨rfl, HW5.out.drewN _⟩
 ·rw [show whyR (some (y, x)) = (y : Int) from rfl, show placeR (some (y, x)) = (x : Int) from rfl]
  have hyn := Lx.toks_why HT.out
  have hyb : ((y : Int) == 0) = false := by simp; omega
  have HR := Lib.hid (show Lx.nameOk ⟨p, k, S.data.toList, n⟩ = false by
   unfold Lx.nameOk
   simp only
   rw [HT.out]
   match ts with
   | [] => rfl
   | [a] => rfl
   | a :: b :: l => rfl)
  clear hyn
  go_quiet (fail)
  go_wp2_with fail
  refine bodyPost_ret (results_tmp2 rfl _ _ _) rfl ?_
  rw [HR.out]
  exact ⟨rfl, HW5.out.drewN _⟩
set_option maxRecDepth 100000 in
set_option maxHeartbeats 4000000 in
theorem zksZ (w : World) (p k n : Int) (S : ByteArray) (hG : GL w) (hN : NG ≤ w.heap.size) (hs : S.size ≤ 1000000) (hn0 : -9223372036854775808 ≤ n) (hn1 : n ≤ 9223372036854775807) (hk : k = 3) :
  Calls Tryz.prog 122 #[.agg #[.int .i64 p, .int .i64 k, .string S, .int .i64 n]] w fun e w' => e = .returned (.tuple #[.string S, .bool (Lx.nameOk ⟨p, k, S.data.toList, n⟩)]) ∧ LW w w' := by
 have hsi : (S.size : Int) ≤ 1000000 := by omega
 have H0 := LW.refl hG hN
 go_enter Tryz.func122, Tryz.ntmps122
 have hB := heap_alloc_new w (.cells #[.int .i64 p, .int .i64 k, .string S, .int .i64 n] 133)
 have hW := H0.alloc (.cells #[.int .i64 p, .int .i64 k, .string S, .int .i64 n] 133)
 obtain ⟨b0, b1, b2, b3⟩ := zfZ hB
 have HB := Lib.hid hB
 clear hB H0
 have e1 : (k == 1) = false := by simp; omega
 have e2 : (k == 2) = false := by simp; omega
 have e3 : (k == 3) = true := by simp; omega
 clear hk
 go_upto_block 0 with fail
 obtain ⟨w2, hw2⟩ : ∃ w2, w.alloc (.cells #[.int .i64 p, .int .i64 k, .string S, .int .i64 n] 133) = w2 := ⟨_, rfl⟩
 rw [hw2] at b0 b1 b2 b3 HB hW ⊢
 have hz2 : w.heap.size < w2.heap.size := zaZ HB.out
 have HW := Lib.hid hW
 clear hw2 hW
 have htk := fun X => zdwZ S X (by omega)
 go_upto_region 6 with (go_at_call 138; refine (htk _).mono ?_; clear htk; rintro e W5 ⟨v5, rfl, ho5, hb5⟩)
 have HW5 := Lib.hid (HW.out.go hb5)
 have hB5 := (hb5.block _ hz2).trans HB.out
 obtain ⟨c0, c1, c2, c3⟩ := zfZ hB5
 have hl5 := zaZ hB5
 obtain ⟨ts, hts⟩ : ∃ ts, (Lx.toks S.data.toList).1 = ts := ⟨_, rfl⟩
 obtain ⟨o, ho⟩ : ∃ o, (Lx.toks S.data.toList).2 = o := ⟨_, rfl⟩
 rw [hts] at ho5
 rw [ho]
 have HT := Lib.hid (show Lx.toks S.data.toList = (ts, o) from Prod.ext hts ho)
 obtain ⟨A0, cap0, hv⟩ := ho5.slice
 subst hv
 have HO := Lib.hid ho5
 clear hts ho b0 b1 b2 b3 hB5 ho5
 rcases o with _ | ⟨y, x⟩
 ·rw [show whyR none = 0 from rfl, show placeR none = 0 from rfl]
  by_cases h1 : ts.length = 1
  ·obtain ⟨x, hx⟩ := List.length_eq_one_iff.1 h1
   subst hx
   clear h1
   rw [show ([x] : List Lx.Tok).length = 1 from rfl]
   have hti := HO.out.toks
   obtain ⟨g, cur, fr, hA, hg, hcur⟩ := hti.at (m := 0) (by simp)
   subst hA
   obtain ⟨t0, t1, t2, t3⟩ := toks_at hg hcur (m := 0) (by simp)
   have hgl := zaZ hg
   obtain ⟨X, hX⟩ : ∃ X : ByteArray, (⟨x.s.toArray⟩ : ByteArray) = X := ⟨_, rfl⟩
   have x1 : W5.cell? ⟨g, 1, none⟩ = some (.int .i64 x.kind) := by simpa using t1
   have x2 : W5.cell? ⟨g, 2, none⟩ = some (.string X) := by rw [← hX]; simpa using t2
   have hcs : (X.toList == S.toList) = (x.s == S.data.toList) := by rw [← hX, ByteArray.toList_mk, ByteArray.toList_eq]
   have HR := Lib.hid (show Lx.nameOk ⟨p, k, S.data.toList, n⟩ = (x.kind == k && (x.s == S.data.toList && n == 0)) by
    unfold Lx.nameOk
    simp only
    rw [HT.out])
   clear t0 t1 t2 t3 hg hcur hti hX
   cases hk : (x.kind == k) with
   | false =>
    rw [hk] at HR
    go_quiet (fail)
    go_wp2_with fail
    refine bodyPost_ret (results_tmp2 rfl _ _ _) rfl ?_
    rw [HR.out]
    exact ⟨rfl, HW5.out.drewN _⟩
   | true =>
    cases hsx : (x.s == S.data.toList) with
    | false =>
     rw [hk, hsx] at HR
     rw [hsx] at hcs
     clear hsx
     go_quiet (fail)
     go_wp2_with fail
     refine bodyPost_ret (results_tmp2 rfl _ _ _) rfl ?_
     rw [HR.out]
     exact ⟨rfl, HW5.out.drewN _⟩
    | true =>
     rw [hk, hsx] at HR
     rw [hsx] at hcs
     clear hsx
     cases hn : (n == 0) with
     | false =>
      rw [hn] at HR
      go_quiet (fail)
      go_wp2_with fail
      refine bodyPost_ret (results_tmp2 rfl _ _ _) rfl ?_
      rw [HR.out]
      exact ⟨rfl, HW5.out.drewN _⟩
     | true =>
      rw [hn] at HR
      go_quiet (fail)
      go_wp2_with fail
      refine bodyPost_ret (results_tmp2 rfl _ _ _) rfl ?_
      rw [HR.out]
      exact ⟨rfl, HW5.out.drewN _⟩
  ·have hlb : ((ts.length : Int) == 1) = false := by simp; omega
   have HR := Lib.hid (show Lx.nameOk ⟨p, k, S.data.toList, n⟩ = false by
    unfold Lx.nameOk
    simp only
    rw [HT.out]
    match ts, h1 with
    | [], _ => rfl
    | [a], h => exact absurd rfl h
    | a :: b :: l, _ => rfl)
   clear h1
   go_quiet (fail)
   go_wp2_with fail
   refine bodyPost_ret (results_tmp2 rfl _ _ _) rfl ?_
   rw [HR.out]
   exact ⟨rfl, HW5.out.drewN _⟩
 ·rw [show whyR (some (y, x)) = (y : Int) from rfl, show placeR (some (y, x)) = (x : Int) from rfl]
  have hyn := Lx.toks_why HT.out
  have hyb : ((y : Int) == 0) = false := by simp; omega
  have HR := Lib.hid (show Lx.nameOk ⟨p, k, S.data.toList, n⟩ = false by
   unfold Lx.nameOk
   simp only
   rw [HT.out]
   match ts with
   | [] => rfl
   | [a] => rfl
   | a :: b :: l => rfl)
  clear hyn
  go_quiet (fail)
  go_wp2_with fail
  refine bodyPost_ret (results_tmp2 rfl _ _ _) rfl ?_
  rw [HR.out]
  exact ⟨rfl, HW5.out.drewN _⟩
end Go.Proofs.YtdncljdfmdgdaaaGreatDoor
namespace Go.Proofs.YtdncljdfmdgdaaaGreatDoor
open Go.RowKit
set_option linter.unusedSimpArgs false
set_option linter.unusedVariables false
theorem esc_ten {c : UInt8} (h : c.toNat = 10) : Lx.esc c = [92, 110] := by simp [Lx.esc, h]
theorem znhZ {c : UInt8} (h : ¬ c.toNat = 10) (h2 : c.toNat = 34 ∨ c.toNat = 92) : Lx.esc c = [92, c] := by
 simp only [Lx.esc, beq_iff_eq, h, if_false, Bool.or_eq_true, h2, if_true]
theorem zktZ {c : UInt8} (h : ¬ c.toNat = 10) (h2 : ¬ (c.toNat = 34 ∨ c.toNat = 92)) : Lx.esc c = [c] := by
 simp only [Lx.esc, beq_iff_eq, h, if_false, Bool.or_eq_true, h2]
theorem ziyZ {s : ByteArray} {m : Nat} (hlt : m < s.size) {l : Lx.Bytes} (hl : l = 34 :: Lx.quoteIn (s.data.toList.take m)) : 34 :: Lx.quoteIn (s.data.toList.take (m + 1)) = l ++ Lx.esc (s[m]'hlt) := by
 rw [zehZ s m hlt, Lx.quoteIn_append, hl]
 have e : Lx.quoteIn [s[m]'hlt] = Lx.esc (s[m]'hlt) := by rw [Lx.quoteIn_cons]; simp [Lx.quoteIn]
 rw [e]
 rfl
theorem zbkZ (a b : ByteArray) : (a ++ b).data.toList = a.data.toList ++ b.data.toList := by rw [ByteArray.data_append]; simp
theorem zizZ {s A : ByteArray} {m : Nat} (hm : m ≤ s.size) (hA : A.data.toList = 34 :: Lx.quoteIn (s.data.toList.take m)) : A.size ≤ 2 * m + 1 := by
 rw [← zgZ, hA, List.length_cons]
 have := Lx.quoteIn_len (s.data.toList.take m)
 rw [List.length_take, zgZ] at this
 omega
set_option maxHeartbeats 4000000 in
theorem zhpZ (s : ByteArray) (w : World) (hs : s.size ≤ 4000000) :
  Calls Tryz.prog 77 #[.string s] w fun e w' => e = .returned (.string ⟨(Lx.quote s.data.toList).toArray⟩) ∧ w' = w := by
 have hsi : (s.size : Int) ≤ 4000000 := by omega
 go_enter Tryz.func77, Tryz.ntmps77
 go_wp2
 go_loopg [3, 4] (s.size) (fun n v u wr => ∃ (m : Nat) (A : ByteArray), n = s.size - m ∧ v = .string A ∧ u = .int .i64 (m : Int) ∧ m ≤ s.size ∧ A.data.toList = 34 :: Lx.quoteIn (s.data.toList.take m) ∧ wr = w)
 case atStart => exact ⟨0, ⟨#[34]⟩, rfl, rfl, rfl, Nat.zero_le _, by simp [Lx.quoteIn], rfl⟩
 case round =>
  obtain ⟨m, A, hn, rfl, rfl, hm, hA, rfl⟩ := hrel
  have HN := Lib.hid hn
  have HA := Lib.hid hA
  have hAs := zizZ hm hA
  have hAi : (A.size : Int) ≤ 8000001 := by omega
  clear hn hA hAs
  have hi0 : (0 : Int) ≤ (m : Int) := by omega
  have hmi : (m : Int) ≤ 4000000 := by omega
  by_cases hlt : m < s.size
  ·have hi : (m : Int) < (s.size : Int) := by omega
   have hi1 : (m : Int) + 1 ≤ (s.size : Int) := by omega
   have HE := Lib.hid (ziyZ hlt HA.out)
   obtain ⟨B, hB⟩ : ∃ B : ByteArray, s.extract m (m + 1) = B := ⟨_, rfl⟩
   have hBd : B.data.toList = [s[m]'hlt] := by
    rw [← hB, zuZ, byte_at s m hlt, show m + 1 - m = 1 by omega]
    rfl
   have hBs : (B.size : Int) = 1 := by
    rw [← zgZ, hBd]
    rfl
   have HBD := Lib.hid hBd
   clear hBd
   by_cases h10 : (s[m]'hlt).toNat = 10
   ·have b10 := u8t _ 10 h10
    have HF := Lib.hid (HE.out.trans (by rw [esc_ten h10]))
    clear h10
    go_wp2
    go_roundg (s.size - (m + 1))
    case measure => have := HN.out; omega
    case rel => exact ⟨m + 1, _, rfl, rfl, by simp, hlt, by rw [zbkZ, HF.out, HA.out], rfl⟩
   ·have b10 := u8f _ 10 h10
    by_cases hq : (s[m]'hlt).toNat = 34 ∨ (s[m]'hlt).toNat = 92
    ·have HF := Lib.hid (HE.out.trans (by rw [znhZ h10 hq]))
     by_cases h34 : (s[m]'hlt).toNat = 34
     ·have b34 := u8t _ 34 h34
      clear h10 hq h34
      go_wp2
      go_roundg (s.size - (m + 1))
      case measure => have := HN.out; omega
      case rel => exact ⟨m + 1, _, rfl, rfl, by simp, hlt, by rw [zbkZ, zbkZ, HF.out, HA.out, HBD.out]; simp, rfl⟩
     ·have b34 := u8f _ 34 h34
      have b92 := u8t _ 92 (by omega : (s[m]'hlt).toNat = 92)
      clear h10 hq h34
      go_wp2
      go_roundg (s.size - (m + 1))
      case measure => have := HN.out; omega
      case rel => exact ⟨m + 1, _, rfl, rfl, by simp, hlt, by rw [zbkZ, zbkZ, HF.out, HA.out, HBD.out]; simp, rfl⟩
    ·have HF := Lib.hid (HE.out.trans (by rw [zktZ h10 hq]))
     have b34 := u8f _ 34 (by omega : ¬ (s[m]'hlt).toNat = 34)
     have b92 := u8f _ 92 (by omega : ¬ (s[m]'hlt).toNat = 92)
     clear h10 hq
     go_wp2
     go_roundg (s.size - (m + 1))
     case measure => have := HN.out; omega
     case rel => exact ⟨m + 1, _, rfl, rfl, by simp, hlt, by rw [zbkZ, HF.out, HA.out, HBD.out], rfl⟩
  ·have hi : ¬ (m : Int) < (s.size : Int) := by omega
   have HQ := Lib.hid (show (A ++ ⟨#[34]⟩ : ByteArray) = ⟨(Lx.quote s.data.toList).toArray⟩ by
    apply ByteArray.ext
    rw [ByteArray.data_append]
    apply Array.toList_inj.1
    rw [Array.toList_append, HA.out, List.take_of_length_le (by rw [zgZ]; omega)]
    rfl)
   go_wp2
   go_ret
   rw [HQ.out]
   exact ⟨rfl, rfl⟩
end Go.Proofs.YtdncljdfmdgdaaaGreatDoor
namespace Go.Proofs.YtdncljdfmdgdaaaGreatDoor
open Go.RowKit
set_option linter.unusedSimpArgs false
set_option linter.unusedVariables false
set_option maxRecDepth 100000 in
set_option maxHeartbeats 4000000 in
theorem one_neg (w : World) (p k n : Int) (S : ByteArray) (hG : GL w) (hN : NG ≤ w.heap.size) (hs : S.size ≤ 1000000) (hn0 : -9223372036854775808 ≤ n) (hn1 : n ≤ 9223372036854775807) (hk : k = 4) (hneg : n < 0) :
  Calls Tryz.prog 122 #[.agg #[.int .i64 p, .int .i64 k, .string S, .int .i64 n]] w fun e w' => e = .returned (.tuple #[.string ⟨(Lx.oneR ⟨p, k, S.data.toList, n⟩).1.toArray⟩, .bool (Lx.oneR ⟨p, k, S.data.toList, n⟩).2]) ∧ LW w w' := by
 have hsi : (S.size : Int) ≤ 1000000 := by omega
 have H0 := LW.refl hG hN
 go_enter Tryz.func122, Tryz.ntmps122
 have hB := heap_alloc_new w (.cells #[.int .i64 p, .int .i64 k, .string S, .int .i64 n] 133)
 have hW := H0.alloc (.cells #[.int .i64 p, .int .i64 k, .string S, .int .i64 n] 133)
 obtain ⟨b0, b1, b2, b3⟩ := zfZ hB
 have HB := Lib.hid hB
 clear hB H0
 have HR := Lib.hid (show Lx.oneR ⟨p, k, S.data.toList, n⟩ = ([], false) by
  unfold Lx.oneR
  simp only
  rw [if_neg (by omega), if_pos hk, if_pos (.inl hneg)])
 have e1 : (k == 1) = false := by simp; omega
 have e2 : (k == 2) = false := by simp; omega
 have e3 : (k == 3) = false := by simp; omega
 have e4 : (k == 4) = true := by simp; omega
 clear hk
 go_upto_block 0 with fail
 obtain ⟨w2, hw2⟩ : ∃ w2, w.alloc (.cells #[.int .i64 p, .int .i64 k, .string S, .int .i64 n] 133) = w2 := ⟨_, rfl⟩
 rw [hw2] at b0 b1 b2 b3 HB hW ⊢
 have hz2 : w.heap.size < w2.heap.size := zaZ HB.out
 have HW := Lib.hid hW
 clear hw2 hW
 go_wp2_with fail
 refine bodyPost_ret (results_tmp2 rfl _ _ _) rfl ?_
 rw [HR.out]
 exact ⟨rfl, HW.out⟩
set_option maxRecDepth 100000 in
set_option maxHeartbeats 4000000 in
theorem zfnZ (w : World) (p k n : Int) (S : ByteArray) (hG : GL w) (hN : NG ≤ w.heap.size) (hs : S.size ≤ 1000000) (hn0 : -9223372036854775808 ≤ n) (hn1 : n ≤ 9223372036854775807) (hk : k = 4) (hneg : 0 ≤ n) (hS : S.data.toList ≠ []) :
  Calls Tryz.prog 122 #[.agg #[.int .i64 p, .int .i64 k, .string S, .int .i64 n]] w fun e w' => e = .returned (.tuple #[.string ⟨(Lx.oneR ⟨p, k, S.data.toList, n⟩).1.toArray⟩, .bool (Lx.oneR ⟨p, k, S.data.toList, n⟩).2]) ∧ LW w w' := by
 have hsi : (S.size : Int) ≤ 1000000 := by omega
 have H0 := LW.refl hG hN
 go_enter Tryz.func122, Tryz.ntmps122
 have hB := heap_alloc_new w (.cells #[.int .i64 p, .int .i64 k, .string S, .int .i64 n] 133)
 have hW := H0.alloc (.cells #[.int .i64 p, .int .i64 k, .string S, .int .i64 n] 133)
 obtain ⟨b0, b1, b2, b3⟩ := zfZ hB
 have HB := Lib.hid hB
 clear hB H0
 have HR := Lib.hid (show Lx.oneR ⟨p, k, S.data.toList, n⟩ = ([], false) by
  unfold Lx.oneR
  simp only
  rw [if_neg (by omega), if_pos hk, if_pos (.inr hS)])
 have hempty : S.toList.isEmpty = false := by
  rw [ByteArray.toList_eq]
  cases h : S.data.toList with
  | nil => exact absurd h hS
  | cons a l => rfl
 have e1 : (k == 1) = false := by simp; omega
 have e2 : (k == 2) = false := by simp; omega
 have e3 : (k == 3) = false := by simp; omega
 have e4 : (k == 4) = true := by simp; omega
 have hnb : decide (n < 0) = false := by simpa using hneg
 clear hk hS
 go_upto_block 0 with fail
 obtain ⟨w2, hw2⟩ : ∃ w2, w.alloc (.cells #[.int .i64 p, .int .i64 k, .string S, .int .i64 n] 133) = w2 := ⟨_, rfl⟩
 rw [hw2] at b0 b1 b2 b3 HB hW ⊢
 have hz2 : w.heap.size < w2.heap.size := zaZ HB.out
 have HW := Lib.hid hW
 clear hw2 hW
 go_wp2_with fail
 refine bodyPost_ret (results_tmp2 rfl _ _ _) rfl ?_
 rw [HR.out]
 exact ⟨rfl, HW.out⟩
set_option maxRecDepth 100000 in
set_option maxHeartbeats 4000000 in
theorem zjaZ (w : World) (p k n : Int) (S : ByteArray) (hG : GL w) (hN : NG ≤ w.heap.size) (hs : S.size ≤ 1000000) (hn0 : -9223372036854775808 ≤ n) (hn1 : n ≤ 9223372036854775807) (hk : k = 4) (N : Nat) (hN4 : n = (N : Int)) (hS : S.data.toList = []) :
  Calls Tryz.prog 122 #[.agg #[.int .i64 p, .int .i64 k, .string S, .int .i64 n]] w fun e w' => e = .returned (.tuple #[.string ⟨(Lx.oneR ⟨p, k, S.data.toList, n⟩).1.toArray⟩, .bool (Lx.oneR ⟨p, k, S.data.toList, n⟩).2]) ∧ LW w w' := by
 have hsi : (S.size : Int) ≤ 1000000 := by omega
 have H0 := LW.refl hG hN
 go_enter Tryz.func122, Tryz.ntmps122
 have hB := heap_alloc_new w (.cells #[.int .i64 p, .int .i64 k, .string S, .int .i64 n] 133)
 have hW := H0.alloc (.cells #[.int .i64 p, .int .i64 k, .string S, .int .i64 n] 133)
 obtain ⟨b0, b1, b2, b3⟩ := zfZ hB
 have HB := Lib.hid hB
 clear hB H0
 have HR := Lib.hid (show Lx.oneR ⟨p, k, S.data.toList, n⟩ = (Lib.decDigits N, true) by
  unfold Lx.oneR
  simp only
  rw [if_neg (by omega), if_pos hk, if_neg (by rintro (h | h); omega; exact h hS)]
  rw [show n.toNat = N by omega])
 have hempty : S.toList.isEmpty = true := by
  rw [ByteArray.toList_eq, hS]
  rfl
 have e1 : (k == 1) = false := by simp; omega
 have e2 : (k == 2) = false := by simp; omega
 have e3 : (k == 3) = false := by simp; omega
 have e4 : (k == 4) = true := by simp; omega
 have hneg : 0 ≤ n := by omega
 have hNle : N ≤ 9223372036854775807 := by omega
 have HN4 := Lib.hid hN4
 clear hk hS hN4
 go_upto_block 0 with fail
 obtain ⟨w2, hw2⟩ : ∃ w2, w.alloc (.cells #[.int .i64 p, .int .i64 k, .string S, .int .i64 n] 133) = w2 := ⟨_, rfl⟩
 rw [hw2] at b0 b1 b2 b3 HB hW ⊢
 have hz2 : w.heap.size < w2.heap.size := zaZ HB.out
 have HW := Lib.hid hW
 clear hw2 hW
 have hdg := zkpZ N w2 hNle HW.out.g HW.out.n
 rw [← HN4.out] at hdg
 go_wp2_with (go_at_call 76; refine hdg.mono ?_; clear hdg; rintro e W5 ⟨rfl, h5⟩)
 refine bodyPost_ret (results_tmp2 rfl _ _ _) rfl ?_
 rw [HR.out]
 exact ⟨rfl, HW.out.trans h5⟩
set_option maxRecDepth 100000 in
set_option maxHeartbeats 4000000 in
theorem zniZ (w : World) (p k n : Int) (S : ByteArray) (hG : GL w) (hN : NG ≤ w.heap.size) (hs : S.size ≤ 1000000) (hn0 : -9223372036854775808 ≤ n) (hn1 : n ≤ 9223372036854775807) (hk : k = 5) :
  Calls Tryz.prog 122 #[.agg #[.int .i64 p, .int .i64 k, .string S, .int .i64 n]] w fun e w' => e = .returned (.tuple #[.string ⟨(Lx.oneR ⟨p, k, S.data.toList, n⟩).1.toArray⟩, .bool (Lx.oneR ⟨p, k, S.data.toList, n⟩).2]) ∧ LW w w' := by
 have hsi : (S.size : Int) ≤ 1000000 := by omega
 have H0 := LW.refl hG hN
 go_enter Tryz.func122, Tryz.ntmps122
 have hB := heap_alloc_new w (.cells #[.int .i64 p, .int .i64 k, .string S, .int .i64 n] 133)
 have hW := H0.alloc (.cells #[.int .i64 p, .int .i64 k, .string S, .int .i64 n] 133)
 obtain ⟨b0, b1, b2, b3⟩ := zfZ hB
 have HB := Lib.hid hB
 clear hB H0
 have HK := Lib.hid hk
 have e1 : (k == 1) = false := by simp; omega
 have e2 : (k == 2) = false := by simp; omega
 have e3 : (k == 3) = false := by simp; omega
 have e4 : (k == 4) = false := by simp; omega
 have e5 : (k == 5) = true := by simp; omega
 clear hk
 go_upto_block 0 with fail
 obtain ⟨w2, hw2⟩ : ∃ w2, w.alloc (.cells #[.int .i64 p, .int .i64 k, .string S, .int .i64 n] 133) = w2 := ⟨_, rfl⟩
 rw [hw2] at b0 b1 b2 b3 HB hW ⊢
 have hz2 : w.heap.size < w2.heap.size := zaZ HB.out
 have HW := Lib.hid hW
 clear hw2 hW
 go_wp2_with fail
 go_loopg [7] (S.size) (fun i v wr => ∃ m : Nat, i = S.size - m ∧ v = .int .i64 (m : Int) ∧ m ≤ S.size ∧ wr = w2 ∧ (S.data.toList.take m).all Lx.saidB = true)
 case atStart => exact ⟨0, rfl, rfl, Nat.zero_le _, rfl, rfl⟩
 case round =>
  obtain ⟨m, hi, rfl, hm, rfl, ha⟩ := hrel
  have HI := Lib.hid hi
  have HA := Lib.hid ha
  clear hi ha
  have m0 : (0 : Int) ≤ (m : Int) := by omega
  by_cases hlt : m < S.size
  ·have hi : (m : Int) < (S.size : Int) := by omega
   have hsd := refSaid (S[m]'hlt) wr
   have HT := Lib.hid (zehZ S m hlt)
   cases hb : Lx.saidB (S[m]'hlt) with
   | false =>
    rw [hb] at hsd
    have HR := Lib.hid (show Lx.oneR ⟨p, k, S.data.toList, n⟩ = ([], false) by
     unfold Lx.oneR
     simp only
     have h5 := HK.out
     rw [if_neg (by omega), if_neg (by omega), if_pos h5, if_neg]
     intro hall
     have hmem : S[m]'hlt ∈ S.data.toList := by
      have h := byte_at S m hlt
      exact List.mem_of_mem_drop (i := m) (by rw [h]; exact List.mem_cons_self ..)
     have := List.all_eq_true.1 hall _ hmem
     rw [hb] at this
     cases this)
    clear hb
    go_wp2_with (go_at_call 123; refine hsd.mono ?_; clear hsd; rintro e w' ⟨rfl, hwe⟩; rw [← hwe]; clear hwe)
    refine bodyPost_ret (results_tmp2 rfl _ _ _) rfl ?_
    rw [HR.out]
    exact ⟨rfl, HW.out⟩
   | true =>
    rw [hb] at hsd
    have HA2 := Lib.hid (show (S.data.toList.take (m + 1)).all Lx.saidB = true by
     rw [HT.out, List.all_append, HA.out]
     simp [hb])
    clear hb
    go_wp2_with (go_at_call 123; refine hsd.mono ?_; clear hsd; rintro e w' ⟨rfl, hwe⟩; rw [← hwe]; clear hwe)
    go_roundg (S.size - (m + 1))
    case measure => have := HI.out; omega
    case rel => exact ⟨m + 1, rfl, by simp, hlt, rfl, HA2.out⟩
  ·have hi : ¬ (m : Int) < (S.size : Int) := by omega
   have HR := Lib.hid (show Lx.oneR ⟨p, k, S.data.toList, n⟩ = (Lx.quote S.data.toList, n == 0) by
    unfold Lx.oneR
    simp only
    have h5 := HK.out
    have h := HA.out
    rw [List.take_of_length_le (by rw [zgZ]; omega)] at h
    rw [if_neg (by omega), if_neg (by omega), if_pos h5, if_pos h])
   cases hn : (n == 0) with
   | false =>
    rw [hn] at HR
    go_wp2_with fail
    go_quiet ((go_at_call 77; exact zesZ (zhpZ _ _ (by omega))))
    go_wp2_with fail
    refine bodyPost_ret (results_tmp2 rfl _ _ _) rfl ?_
    rw [HR.out]
    exact ⟨rfl, HW.out.drewN _⟩
   | true =>
    rw [hn] at HR
    go_wp2_with fail
    go_quiet ((go_at_call 77; exact zesZ (zhpZ _ _ (by omega))))
    go_wp2_with fail
    refine bodyPost_ret (results_tmp2 rfl _ _ _) rfl ?_
    rw [HR.out]
    exact ⟨rfl, HW.out.drewN _⟩
end Go.Proofs.YtdncljdfmdgdaaaGreatDoor
