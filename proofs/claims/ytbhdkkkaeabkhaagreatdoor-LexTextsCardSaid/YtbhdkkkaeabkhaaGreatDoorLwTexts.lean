/-
  The walk of LexTexts.
-/
import Derived.Test.YtbhdkkkaeabkhaaGreatDoorLwFew
namespace Go.Proofs.YtbhdkkkaeabkhaaGreatDoor
open Go.RowKit Go.Shelf
set_option linter.unusedSimpArgs false
set_option linter.unusedVariables false

set_option maxRecDepth 100000 in
set_option maxHeartbeats 8000000 in
theorem lawTexts (s : ByteArray) (w : World) (hG : GL w) (hN : NG ≤ w.heap.size) : Calls Tryz.prog 13 #[.string s] w fun e w' => e = .returned (.bool true) ∧ LW w w' := by
  have H0 := LW.refl hG hN
  clear hG hN
  go_enter Tryz.func13, Tryz.ntmps13
  go_upto_region 2 with (go_at_call 22; refine (lwFew H0 s 1000 (by omega)).mono ?_; rintro e W1 ⟨B, rfl, hB, hBs, H1⟩)
  clear hB
  obtain ⟨l, hl⟩ : ∃ l, B.data.toList = l := ⟨_, rfl⟩
  have hBl : B = ⟨l.toArray⟩ := by rw [← hl, mk_back]
  have hsz : l.length = B.size := by rw [← hl, len_size]
  have HB := Lib.hid hBl
  have HL := Lib.hid hl
  have hs1 : (B.size : Int) ≤ 1000 := by omega
  clear hBl hl
  go_wp2_with fail
  go_loopg [3, 4] (B.size) (fun n r v wr => ∃ (m : Nat), n = B.size - m ∧ r = .bool ((l.take m).all Lx.saidB) ∧ v = .int .i64 (m : Int) ∧ m ≤ B.size ∧ LW w wr)
  case atStart => exact ⟨0, rfl, rfl, rfl, Nat.zero_le _, H1⟩
  case round =>
    obtain ⟨m, hn, rfl, rfl, hm, hw⟩ := hrel
    have HN := Lib.hid hn
    clear hn H0 H1
    by_cases hlt : m < B.size
    · have hi : (m : Int) < (B.size : Int) := by omega
      have hi0 : (0 : Int) ≤ (m : Int) := by omega
      have hst := Lx.all_step Lx.saidB l m (by omega)
      have hc : l[m]'(by omega) = B[m]'hlt := by
        have : B.data.toList[m]'(by rw [len_size]; exact hlt) = B[m]'hlt := rfl
        rw [← this]
        congr 1
        exact HL.out.symm
      rw [hc] at hst
      obtain ⟨c, hcc⟩ : ∃ c, B[m]'hlt = c := ⟨_, rfl⟩
      rw [hcc] at hst
      have HS := Lib.hid hst
      clear hst hc
      cases hr : (l.take m).all Lx.saidB with
      | false =>
        have HR := Lib.hid (show (l.take (m + 1)).all Lx.saidB = false by rw [HS.out, hr]; rfl)
        clear hr
        go_wp2
        go_roundg (B.size - (m + 1))
        case measure => have := HN.out; omega
        case rel => exact ⟨m + 1, rfl, by rw [HR.out], by simp, hlt, hw⟩
      | true =>
        have HR := Lib.hid (show (l.take (m + 1)).all Lx.saidB = Lx.saidB c by rw [HS.out, hr]; rfl)
        clear hr
        by_cases h10 : c.toNat = 10
        · have hb : ((c.toNat : Int) == 10) = true := by simp [h10]
          have HV := Lib.hid (show Lx.saidB c = true by unfold Lx.saidB; simp [h10])
          clear h10
          go_wp2
          go_roundg (B.size - (m + 1))
          case measure => have := HN.out; omega
          case rel => exact ⟨m + 1, rfl, by rw [HR.out, HV.out], by simp, hlt, hw⟩
        · have hb : ((c.toNat : Int) == 10) = false := by simp; omega
          by_cases h32 : 32 ≤ c.toNat
          · have hb2 : (32 : Int) ≤ (c.toNat : Int) := by omega
            have HV := Lib.hid (show Lx.saidB c = decide ((c.toNat : Int) ≤ 126) by
              unfold Lx.saidB
              rw [show (c.toNat == 10) = false by simpa using h10, show decide (32 ≤ c.toNat) = true by simpa using h32]
              simp only [Bool.false_or, Bool.true_and, decide_eq_decide]
              omega)
            clear h10 h32
            go_wp2
            go_roundg (B.size - (m + 1))
            case measure => have := HN.out; omega
            case rel => exact ⟨m + 1, rfl, by rw [HR.out, HV.out], by simp, hlt, hw⟩
          · have hb2 : ¬ (32 : Int) ≤ (c.toNat : Int) := by omega
            have HV := Lib.hid (show Lx.saidB c = false by
              unfold Lx.saidB
              rw [show (c.toNat == 10) = false by simpa using h10, show decide (32 ≤ c.toNat) = false by simpa using h32]
              rfl)
            clear h10 h32
            go_wp2
            go_roundg (B.size - (m + 1))
            case measure => have := HN.out; omega
            case rel => exact ⟨m + 1, rfl, by rw [HR.out, HV.out], by simp, hlt, hw⟩
    · have hi : ¬ (m : Int) < (B.size : Int) := by omega
      have hta : (l.take m).all Lx.saidB = l.all Lx.saidB := by rw [List.take_of_length_le (by omega)]
      rw [hta]
      clear hta
      have hlaw := Lx.text_law l (by omega)
      have hts : ∀ t ∈ [(⟨0, 5, l, 0⟩ : Lx.Tok)], t.s.length ≤ 1000000000 ∧ -9223372036854775808 ≤ t.n ∧ t.n ≤ 9223372036854775807 := by
        intro t ht
        rw [List.mem_singleton] at ht
        subst ht
        exact ⟨by show l.length ≤ _; omega, by simp, by simp⟩
      cases hr : l.all Lx.saidB with
      | false =>
        rw [hr, if_neg (by decide)] at hlaw
        have hj : ∀ W, LW w W → Calls Tryz.prog 18 #[.slice (some ⟨W.heap.size, 0, none⟩) 1 1] (W.alloc (.cells #[.int .i64 0, .int .i64 5, .string B, .int .i64 0] 26)) fun e W' => e = .returned (.tuple #[.string ⟨#[]⟩, .int .i64 1]) ∧ LW w W' := by
          intro W h
          rw [HB.out]
          exact lwJoinNew h [⟨0, 5, l, 0⟩] 1 rfl (by simp) hts hlaw
        clear hlaw hr hts
        go_wp2_with (first
          | (go_at_call 15; refine (lwTok (by assumption) _ _ _ _).mono ?_; rintro e W1 ⟨rfl, H1⟩)
          | (go_at_call 18; refine (hj _ (by assumption)).mono ?_; clear hj; rintro e W2 ⟨rfl, H2⟩)
          | (go_at_call 3; refine (lwRuns (by assumption)).mono ?_; rintro e W3 ⟨rfl, H3⟩))
        go_ret
        exact ⟨rfl, H3⟩
      | true =>
        rw [hr, if_pos rfl] at hlaw
        obtain ⟨hlaw, hT⟩ := hlaw
        have hql := Lx.quote_len l
        obtain ⟨q, hq⟩ : ∃ q, Lx.quote l = q := ⟨_, rfl⟩
        rw [hq] at hlaw hT hql
        have hj : ∀ W, LW w W → Calls Tryz.prog 18 #[.slice (some ⟨W.heap.size, 0, none⟩) 1 1] (W.alloc (.cells #[.int .i64 0, .int .i64 5, .string B, .int .i64 0] 26)) fun e W' => e = .returned (.tuple #[.string ⟨q.toArray⟩, .int .i64 0]) ∧ LW w W' := by
          intro W h
          rw [HB.out]
          exact lwJoinNew h [⟨0, 5, l, 0⟩] 1 rfl (by simp) hts hlaw
        have hk := fun W (h : LW w W) => lwTokensOk h ⟨q.toArray⟩ (by show q.length ≤ _; omega) hT
        have hsm : ∀ W5 v, ToksIn W5 v [⟨0, 5, l, 0⟩] → ∀ W, LW W5 W → Calls Tryz.prog 25 #[v, .slice (some ⟨W.heap.size, 0, none⟩) 1 1] (W.alloc (.cells #[.int .i64 0, .int .i64 5, .string B, .int .i64 0] 26)) fun e W' => e = .returned (.bool true) ∧ LW W5 W' := by
          intro W5 v hv W h
          rw [HB.out]
          exact (lwSameNew h (hv.below h.b) [⟨0, 5, l, 0⟩] 1 rfl (by simp) (by simp)).mono fun e W' h' => ⟨by rw [h'.1]; simp, h'.2⟩
        clear hlaw hr hts hT hq
        go_wp2_with (first
          | (go_at_call 15; refine (lwTok H5 _ _ _ _).mono ?_; rintro e W6 ⟨rfl, H6⟩)
          | (go_at_call 15; refine (lwTok hw _ _ _ _).mono ?_; rintro e W1 ⟨rfl, H1⟩)
          | (go_at_call 18; refine (hj _ H1).mono ?_; clear hj; rintro e W2 ⟨rfl, H2⟩)
          | (go_at_call 16; refine (hk _ H2).mono ?_; clear hk; rintro e W4 ⟨v, rfl, H4, hv⟩; have H5 := H4.self)
          | (go_at_call 25; refine (hsm _ _ hv _ H6).mono ?_; clear hsm; rintro e W7 ⟨rfl, H7⟩)
          | (go_at_call 3; refine (lwRuns (H4.trans H7)).mono ?_; rintro e W3 ⟨rfl, H3⟩))
        go_ret
        exact ⟨rfl, H3⟩

end Go.Proofs.YtbhdkkkaeabkhaaGreatDoor
