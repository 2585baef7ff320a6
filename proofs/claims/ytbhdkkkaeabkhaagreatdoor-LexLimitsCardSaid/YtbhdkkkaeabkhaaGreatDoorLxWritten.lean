/-
  The walk of written.
-/
import Derived.Test.YtbhdkkkaeabkhaaGreatDoorLxQuote
import Derived.Test.YtbhdkkkaeabkhaaGreatDoorLxTokens
import Derived.Lib.AppendIntMem





namespace Go.Proofs.YtbhdkkkaeabkhaaGreatDoor
open Go.RowKit Go.Shelf
set_option linter.unusedSimpArgs false
set_option linter.unusedVariables false

namespace Lx
/-- A token's text, unheld. -/
def raw (t : Tok) : Option Bytes :=
  if t.kind = 1 ∨ t.kind = 2 ∨ t.kind = 3 ∨ t.kind = 6 then some t.s
  else if t.kind = 4 then (if t.n < 0 then none else some (Lib.decDigits t.n.toNat))
  else if t.kind = 5 then some (quote t.s) else none
/-- What written answers. -/
def held (t : Tok) (s : Bytes) : Bool :=
  match cut 0 s with
  | .ok x n => n == s.length && x == { t with pos := 0 }
  | .bad _ _ => false
def written (t : Tok) : Bytes × Bool :=
  match raw t with
  | none => ([], false)
  | some [] => ([], false)
  | some (c :: l) => if begins c then (c :: l, held t (c :: l)) else ([], false)
end Lx

theorem tokEq (w : World) (p k n p' k' n' : Int) (s s' : ByteArray) :
    (binOp .eql 26 (.agg #[.int .i64 p, .int .i64 k, .string s, .int .i64 n]) (.agg #[.int .i64 p', .int .i64 k', .string s', .int .i64 n'])).run Tryz.prog w = .ok (.bool (p == p' && (k == k' && (s.toList == s'.toList && n == n')))) w := by
  have h1 : Tryz.prog.underlying 26 = some (.struct (Tryz.prog.fieldsOf 26)) := by kernel_rfl
  have h2 : Tryz.prog.stoodInHeld 26 = false := by kernel_rfl
  rw [run_eql_struct, run_equalIn_agg _ _ _ _ _ h1 h2]
  simp [go_sem]
  by_cases a : p = p'
  · by_cases b : k = k'
    · by_cases c : s.toList = s'.toList
      · by_cases d : n = n' <;> simp [a, b, c, d]
      · simp [a, b, c]
    · simp [a, b]
  · simp [a]
theorem tokBeq (x t : Lx.Tok) : (x == t) = (x.pos == t.pos && (x.kind == t.kind && ((⟨x.s.toArray⟩ : ByteArray).toList == (⟨t.s.toArray⟩ : ByteArray).toList && x.n == t.n))) := by
  rw [ByteArray.toList_mk, ByteArray.toList_mk, Bool.eq_iff_iff]
  simp only [beq_iff_eq, Bool.and_eq_true]
  constructor
  · rintro rfl; exact ⟨rfl, rfl, rfl, rfl⟩
  · rintro ⟨a, b, c, d⟩
    cases x; cases t
    simp only at a b c d
    subst a b c d
    rfl
attribute [local go_sem high] tokEq
theorem mk_back (b : ByteArray) : (⟨b.data.toList.toArray⟩ : ByteArray) = b := by cases b; simp
theorem nD_le : ∀ (k u : Nat), u < 10 ^ (k + 1) → Lib.nDigits u ≤ k + 1
  | 0, u, h => by rw [Lib.nDigits_small (by simpa using h)]; exact Nat.le_refl _
  | k + 1, u, h => by
    by_cases hu : u < 10
    · rw [Lib.nDigits_small hu]; omega
    · rw [Lib.nDigits_big hu]
      have := nD_le k (u / 10) (by rw [Nat.pow_succ] at h; omega)
      omega

set_option maxHeartbeats 4000000 in
set_option maxRecDepth 100000 in
theorem lexWritten (t : Lx.Tok) (w : World) (hG : GS w) (hN : NG ≤ w.heap.size) (hs : t.s.length ≤ 1000000000) (hn0 : -9223372036854775808 ≤ t.n) (hn1 : t.n ≤ 9223372036854775807) :
    Calls Tryz.prog 44 #[.agg #[.int .i64 t.pos, .int .i64 t.kind, .string ⟨t.s.toArray⟩, .int .i64 t.n]] w fun e w' =>
      e = .returned (.tuple #[.string ⟨(Lx.written t).1.toArray⟩, .bool (Lx.written t).2]) ∧ w.grownBy w' none := by
  go_enter Tryz.func44, Tryz.ntmps44
  have hB := heap_alloc_new w (.cells #[.int .i64 t.pos, .int .i64 t.kind, .string ⟨t.s.toArray⟩, .int .i64 t.n] 26)
  have hgB : w.grownBy (w.alloc (.cells #[.int .i64 t.pos, .int .i64 t.kind, .string ⟨t.s.toArray⟩, .int .i64 t.n] 26)) none := World.grownBy_alloc _ _ _
  have hGB := hG.alloc (.cells #[.int .i64 t.pos, .int .i64 t.kind, .string ⟨t.s.toArray⟩, .int .i64 t.n] 26)
  obtain ⟨b0, b1, b2, b3⟩ := four_cells hB
  have HB := Lib.hid hB
  have HGB := Lib.hid hgB
  clear hB hgB
  go_upto_block 0 with fail
  obtain ⟨w2, hw2⟩ : ∃ w2, w.alloc (.cells #[.int .i64 t.pos, .int .i64 t.kind, .string ⟨t.s.toArray⟩, .int .i64 t.n] 26) = w2 := ⟨_, rfl⟩
  rw [hw2] at b0 b1 b2 b3 HB HGB hGB ⊢
  have hz2 : w.heap.size < w2.heap.size := lt_of_block HB.out
  clear hw2
  go_cut [4] (fun v wx => ∃ sb : ByteArray, v = .string sb ∧ Lx.raw t = some sb.data.toList ∧ w2.grownBy wx none ∧ sb.size ≤ 3000000000)
  case first =>
    have hsl : (⟨t.s.toArray⟩ : ByteArray).data.toList = t.s := rfl
    by_cases k1 : t.kind = 1 ∨ t.kind = 2 ∨ t.kind = 3 ∨ t.kind = 6
    · have hr : Lx.raw t = some t.s := by unfold Lx.raw; rw [if_pos k1]
      have HR := Lib.hid hr
      clear hr
      rcases k1 with k1 | k1 | k1 | k1
      · have e1 : (t.kind == 1) = true := by simp; omega
        clear k1
        go_wp2
        go_meet
        exact ⟨⟨t.s.toArray⟩, rfl, HR.out, World.grownBy.refl _ _, by show t.s.length ≤ _; omega⟩
      · have e1 : (t.kind == 1) = false := by simp; omega
        have e2 : (t.kind == 2) = true := by simp; omega
        clear k1
        go_wp2
        go_meet
        exact ⟨⟨t.s.toArray⟩, rfl, HR.out, World.grownBy.refl _ _, by show t.s.length ≤ _; omega⟩
      · have e1 : (t.kind == 1) = false := by simp; omega
        have e2 : (t.kind == 2) = false := by simp; omega
        have e3 : (t.kind == 3) = true := by simp; omega
        clear k1
        go_wp2
        go_meet
        exact ⟨⟨t.s.toArray⟩, rfl, HR.out, World.grownBy.refl _ _, by show t.s.length ≤ _; omega⟩
      · have e1 : (t.kind == 1) = false := by simp; omega
        have e2 : (t.kind == 2) = false := by simp; omega
        have e3 : (t.kind == 3) = false := by simp; omega
        have e6 : (t.kind == 6) = true := by simp; omega
        clear k1
        go_wp2
        go_meet
        exact ⟨⟨t.s.toArray⟩, rfl, HR.out, World.grownBy.refl _ _, by show t.s.length ≤ _; omega⟩
    · have e1 : (t.kind == 1) = false := by simp; omega
      have e2 : (t.kind == 2) = false := by simp; omega
      have e3 : (t.kind == 3) = false := by simp; omega
      have e6 : (t.kind == 6) = false := by simp; omega
      by_cases k4 : t.kind = 4
      · by_cases hneg : t.n < 0
        · have hr : Lx.raw t = none := by unfold Lx.raw; rw [if_neg k1, if_pos k4, if_pos hneg]
          have HR := Lib.hid (show Lx.written t = ([], false) by unfold Lx.written; rw [hr])
          clear hr k1
          have e4 : (t.kind == 4) = true := by simp; omega
          clear k4
          go_wp2
          refine bodyPost_ret (results_tmp2 rfl _ _ _) rfl ?_
          rw [HR.out]
          exact ⟨rfl, HGB.out⟩
        · have hr : Lx.raw t = some (Lib.decDigits t.n.toNat) := by unfold Lx.raw; rw [if_neg k1, if_pos k4, if_neg hneg]
          have hit : Lib.itoa t.n = Lib.decDigits t.n.toNat := by unfold Lib.itoa; rw [if_neg hneg]
          have HR := Lib.hid hr
          have HI := Lib.hid hit
          clear hr hit k1
          have e4 : (t.kind == 4) = true := by simp; omega
          clear k4
          go_wp2_with (go_at_call 64; refine (Tryz.strconv_Itoa _ hn0 hn1 _ hGB.pow).mono ?_; rintro e w3 ⟨rfl, k, os, rfl⟩)
          go_meet
          refine ⟨⟨(Lib.decDigits t.n.toNat).toArray⟩, by rw [HI.out], HR.out, below_grown (Lib.below_grow _ _ (Nat.le_refl _) _ _), ?_⟩
          show (Lib.decDigits t.n.toNat).length ≤ 3000000000
          rw [Lib.decDigits_length]
          have := nD_le 19 t.n.toNat (by omega)
          omega
      · have e4 : (t.kind == 4) = false := by simp; omega
        by_cases k5 : t.kind = 5
        · have hr : Lx.raw t = some (Lx.quote t.s) := by unfold Lx.raw; rw [if_neg k1, if_neg k4, if_pos k5]
          have HR := Lib.hid hr
          clear hr k1
          have e5 : (t.kind == 5) = true := by simp; omega
          clear k5
          go_wp2_with (go_at_call 68; refine (lexQuote ⟨t.s.toArray⟩ _ (by show t.s.length ≤ _; omega)).mono ?_; rintro e w3 ⟨rfl, hb3⟩)
          go_meet
          refine ⟨⟨(Lx.quote t.s).toArray⟩, rfl, HR.out, below_grown hb3, ?_⟩
          have := Lx.quoteIn_len t.s
          show (Lx.quote t.s).length ≤ _
          simp [Lx.quote]
          omega
        · have e5 : (t.kind == 5) = false := by simp; omega
          have hr : Lx.raw t = none := by unfold Lx.raw; rw [if_neg k1, if_neg k4, if_neg k5]
          have HR := Lib.hid (show Lx.written t = ([], false) by unfold Lx.written; rw [hr])
          clear hr k1 k4 k5
          go_wp2
          refine bodyPost_ret (results_tmp2 rfl _ _ _) rfl ?_
          rw [HR.out]
          exact ⟨rfl, HGB.out⟩
  case rest =>
    obtain ⟨sb, rfl, hr, hg2, hsl⟩ := hcut
    have HR := Lib.hid hr
    clear hr
    have hgW : w.grownBy wc none := HGB.out.trans hg2
    have hGc : GS wc := hG.below (grown_below hgW)
    have hszc := hg2.size
    have hBc := (hg2.block _ hz2 (fun e => nomatch e)).trans HB.out
    have hgW3 := hgW.trans (World.grownBy_alloc wc (.cells #[.string sb, .int .i64 0] 102) none)
    by_cases hz : sb.size = 0
    · have hnil : sb.data.toList = [] := List.length_eq_zero_iff.1 (by rw [len_size]; exact hz)
      have hE : sb.toList.isEmpty = true := by rw [ByteArray.toList_eq, hnil]; rfl
      have HW := Lib.hid (show Lx.written t = ([], false) by unfold Lx.written; rw [HR.out, hnil])
      clear hz hnil
      go_wp2
      refine bodyPost_ret (results_tmp2 rfl _ _ _) rfl ?_
      rw [HW.out]
      exact ⟨rfl, hgW3⟩
    · have hz' : 0 < sb.size := by omega
      have hd := byte_at sb 0 hz'
      rw [List.drop_zero] at hd
      have hE : sb.toList.isEmpty = false := by rw [ByteArray.toList_eq, hd]; rfl
      have HD := Lib.hid hd
      clear hz hd
      have hC3 : Cu (wc.alloc (.cells #[.string sb, .int .i64 0] 102)) wc.heap.size sb 0 := heap_alloc_new wc _
      have hG3 := hGc.alloc (.cells #[.string sb, .int .i64 0] 102)
      have hB3 := heap_alloc hBc (.cells #[.string sb, .int .i64 0] 102)
      have hN3 : NG ≤ wc.heap.size := by omega
      have hlt3 := lt_of_block hB3
      cases hb : Lx.begins (sb[0]'hz') with
      | false =>
        have HW := Lib.hid (show Lx.written t = ([], false) by unfold Lx.written; rw [HR.out, HD.out]; simp [hb])
        go_wp2_with (go_at_call 58; refine (lexBegins _ _).mono ?_; rintro e w' ⟨rfl, rfl⟩)
        refine bodyPost_ret (results_tmp2 rfl _ _ _) rfl ?_
        rw [HW.out]
        exact ⟨rfl, hgW3⟩
      | true =>
        have HBG := Lib.hid hb
        have HW := Lib.hid (show Lx.written t = (sb.data.toList, Lx.held t sb.data.toList) by unfold Lx.written; rw [HR.out, HD.out]; simp [hb])
        have hlen : sb.data.toList.length = sb.size := len_size sb
        cases hc : Lx.cut 0 (sb.data.toList.drop 0) with
        | bad y x =>
          have HX := Lib.hid hc
          have HH := Lib.hid (show Lx.held t sb.data.toList = false by unfold Lx.held; rw [List.drop_zero] at hc; rw [hc])
          clear hc hlen
          go_wp2_with (first | (go_at_call 58; refine (lexBegins _ _).mono ?_; rintro e w' ⟨rfl, rfl⟩) | (go_at_call 59; refine (lexToken sb wc.heap.size 0 _ hC3 hz' (by omega) hG3 hN3 HBG.out).mono ?_; intro e w6 hres; obtain ⟨g, j, rfl, hg6, hR6, hgl, hC6⟩ := ResIs.bad' HX.out hres; clear hres; have hB6 := (hg6.block _ hlt3 (by simp; omega)).trans hB3; obtain ⟨b0, b1, b2, b3⟩ := four_cells hB6; obtain ⟨f0, f1, f2, f3⟩ := four_free hB6; have c1 := hC6.c1; have hlt6 := lt_of_block hB6; have hlc6 := hC6.lt))
          go_quiet (fail)
          go_wp2
          refine bodyPost_ret (results_tmp2 rfl _ _ _) rfl ?_
          rw [HW.out, HH.out]
          refine ⟨?_, (((grown_in (grown_in hgW3 hg6 (by omega)) (grown_set _ _ _ _) (Nat.le_refl _)).trans (World.grownBy_alloc _ _ _)).trans (grown_drewN _ _ _))⟩
          simp only [mk_back]
          rfl
        | ok x n =>
          have HX := Lib.hid hc
          have HH := Lib.hid (show Lx.held t sb.data.toList = (n == sb.size && x == { t with pos := 0 }) by unfold Lx.held; rw [List.drop_zero] at hc; rw [hc, hlen])
          clear hc hlen
          go_wp2_with (first | (go_at_call 58; refine (lexBegins _ _).mono ?_; rintro e w' ⟨rfl, rfl⟩) | (go_at_call 59; refine (lexToken sb wc.heap.size 0 _ hC3 hz' (by omega) hG3 hN3 HBG.out).mono ?_; intro e w6 hres; obtain ⟨rfl, hg6, hC6⟩ := ResIs.ok' HX.out hres; rw [Nat.zero_add] at hC6; clear hres; have hB6 := (hg6.block _ hlt3 (by simp; omega)).trans hB3; obtain ⟨b0, b1, b2, b3⟩ := four_cells hB6; obtain ⟨f0, f1, f2, f3⟩ := four_free hB6; have c1 := hC6.c1; have hlt6 := lt_of_block hB6; have hlc6 := hC6.lt))
          by_cases hn : n = sb.size
          · have hnb : (n == sb.size) = true := by simp [hn]
            have hni : ((n : Int) == (sb.size : Int)) = true := by simp; omega
            clear hn
            go_quiet (fail)
            go_wp2
            refine bodyPost_ret (results_tmp2 rfl _ _ _) rfl ?_
            rw [HW.out, HH.out, hnb, tokBeq]
            refine ⟨?_, (((grown_in (grown_in hgW3 hg6 (by omega)) (grown_set _ _ _ _) (Nat.le_refl _)).trans (World.grownBy_alloc _ _ _)).trans (grown_drewN _ _ _))⟩
            simp only [mk_back, ByteArray.toList_mk, Bool.true_and, Bool.false_and]
            rfl
          · have hnb : (n == sb.size) = false := by simp [hn]
            have hni : ((n : Int) == (sb.size : Int)) = false := by simp; omega
            clear hn
            go_quiet (fail)
            go_wp2
            refine bodyPost_ret (results_tmp2 rfl _ _ _) rfl ?_
            rw [HW.out, HH.out, hnb, tokBeq]
            refine ⟨?_, (((grown_in (grown_in hgW3 hg6 (by omega)) (grown_set _ _ _ _) (Nat.le_refl _)).trans (World.grownBy_alloc _ _ _)).trans (grown_drewN _ _ _))⟩
            simp only [mk_back, ByteArray.toList_mk, Bool.true_and, Bool.false_and]
            rfl

end Go.Proofs.YtbhdkkkaeabkhaaGreatDoor
