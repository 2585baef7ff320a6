/-
  The walk of (*cutter).skip.
-/
import Derived.Test.YtbhdkkkaeabkhaaGreatDoorLxWorld
import Derived.Test.YtbhdkkkaeabkhaaGreatDoorShelf
namespace Go.Proofs.YtbhdkkkaeabkhaaGreatDoor
open Go.RowKit

/-- Where skip leaves the cutter. -/
def skipAt (s : ByteArray) (k : Nat) : Nat := s.size - (Lx.skip false (s.data.toList.drop k)).length

theorem skipAt_of {s : ByteArray} {k m : Nat} (h : Lx.skip false (s.data.toList.drop k) = s.data.toList.drop m) (hm : m ≤ s.size) : skipAt s k = m := by
  unfold skipAt
  rw [h, List.length_drop, len_size]
  omega

set_option maxHeartbeats 1000000 in
theorem lexSkip (s : ByteArray) (b k : Nat) (w : World) (hc : Cu w b s k) (hk : k ≤ s.size) (hs : s.size ≤ 140737488351232) :
    Calls Tryz.prog 57 #[.pointer (some ⟨b, 0, none⟩)] w fun e w' => e = .returned (.tuple #[]) ∧ Cu w' b s (skipAt s k) ∧ w.grownBy w' (some b) := by
  go_enter Tryz.func57, Tryz.ntmps57
  go_wp2
  go_loopg [] (s.size - k) (fun n wr => ∃ m : Nat, n = s.size - m ∧ m ≤ s.size ∧ Cu wr b s m ∧ w.grownBy wr (some b) ∧ Lx.skip false (s.data.toList.drop m) = Lx.skip false (s.data.toList.drop k))
  case atStart => exact ⟨k, rfl, hk, hc, World.grownBy.refl _ _, rfl⟩
  case round =>
    obtain ⟨m, hn, hm, hcm, hg, he⟩ := hrel
    obtain ⟨g0, rfl⟩ : ∃ g0, g0 = gk := ⟨_, rfl⟩
    obtain ⟨wo, rfl⟩ : ∃ wo : World, wo = wr := ⟨_, rfl⟩
    have hc0 := hcm.c0
    have hc1 := hcm.c1
    have hf1 := hcm.f1
    have HE : Hid (Lx.skip false (s.data.toList.drop m) = Lx.skip false (s.data.toList.drop k)) := he
    have HN : Hid (g0 = s.size - m) := hn
    have HC := Lib.hid hcm
    clear he hn hcm
    go_wp2
    go_quiet (fail)
    by_cases hlt : m < s.size
    · have hi : (m : Int) < (s.size : Int) := by omega
      have hi0 : (0 : Int) ≤ (m : Int) := by omega
      go_wp2
      go_quiet ((go_at_call 82; exact quiet_eq2 (lexBlank _ _)))
      have HD0 := Lib.hid (byte_at s m hlt)
      cases hb : Lx.blank (s[m]'hlt)
      · go_wp2
        go_quiet ((go_at_call 83; exact quiet_back2 (Tryz.strings_HasPrefix _ _ _)))
        have hr := remark_at s m hlt
        generalize hp : Lib.hasPrefix _ _ = hpb
        cases hpb
        · have HD : Hid (Lx.skip false (s.data.toList.drop k) = s.data.toList.drop m) := by
            rw [← HE.out, HD0.out]
            refine Lx.skip_stays hb ?_
            rw [show Lib.hasPrefix (s.extract m s.size).data.toList [47, 47] = false from hp] at hr
            rintro ⟨h1, h2⟩
            rw [h2] at hr
            simp [h1] at hr
          clear hp hr hb
          go_wp2
          refine bodyPost_ret (results_none rfl _ _ _) rfl ⟨rfl, ?_, ?_⟩
          · rw [skipAt_of HD.out hm]
            exact HC.out
          · repeat (first | exact hg | refine World.grownBy.trans ?_ (grown_drewN _ _ _))
        · have HR : Hid (Lx.skip true (s.data.toList.drop m) = Lx.skip false (s.data.toList.drop k)) := by
            rw [show Lib.hasPrefix (s.extract m s.size).data.toList [47, 47] = true from hp] at hr
            simp only [Bool.true_eq, Bool.and_eq_true, beq_iff_eq] at hr
            have e := HE.out
            rw [HD0.out, Lx.skip_remark hb hr.1 hr.2] at e
            rw [HD0.out, Lx.skip_within (by rw [hr.1]; decide)]
            exact e
          have H47 : Hid (s[m].toNat = 47) := by
            rw [show Lib.hasPrefix (s.extract m s.size).data.toList [47, 47] = true from hp] at hr
            simp only [Bool.true_eq, Bool.and_eq_true, beq_iff_eq] at hr
            exact hr.1
          clear hp hr hb hc0 hc1 hf1
          go_wp2
          go_loopg [] (s.size - m) (fun n wr => ∃ p : Nat, n = s.size - p ∧ m ≤ p ∧ p ≤ s.size ∧ Cu wr b s p ∧ w.grownBy wr (some b) ∧ Lx.skip true (s.data.toList.drop p) = Lx.skip false (s.data.toList.drop k))
          case atStart =>
            refine ⟨m, rfl, Nat.le_refl _, hm, HC.out, ?_, HR.out⟩
            repeat (first | exact hg | refine World.grownBy.trans ?_ (grown_drewN _ _ _))
          case round =>
            obtain ⟨p, hn2, hmp, hp, hcp, hg2, he2⟩ := hrel
            have hc0 := hcp.c0
            have hc1 := hcp.c1
            have hf1 := hcp.f1
            have HE2 := Lib.hid he2
            have HN2 := Lib.hid hn2
            have HC2 := Lib.hid hcp
            clear he2 hn2 hcp
            by_cases hlp : p < s.size
            · have hip : (p : Int) < (s.size : Int) := by omega
              have hip0 : (0 : Int) ≤ (p : Int) := by omega
              have HDp := Lib.hid (byte_at s p hlp)
              by_cases h10 : s[p].toNat = 10
              · have hB : (((s[p]'hlp).toNat : Int) != 10) = false := by simp [h10]
                have H10 := Lib.hid h10
                clear h10
                go_wp2
                go_quiet (fail)
                go_wp2
                go_roundg (s.size - p)
                case measure =>
                  have h1 := HN.out
                  have h2 : p ≠ m := fun e => by
                    subst e
                    have := H10.out
                    have := H47.out
                    omega
                  omega
                case rel =>
                  refine ⟨p, rfl, hp, HC2.out, hg2.trans ?_, ?_⟩
                  · repeat (first | exact grown_drewN _ _ _ | refine World.grownBy.trans ?_ (grown_drewN _ _ _))
                  · have e := HE2.out
                    rw [HDp.out, Lx.skip_out H10.out] at e
                    rw [HDp.out]
                    exact e
              · have hB : (((s[p]'hlp).toNat : Int) != 10) = true := by simp; omega
                have H10 := Lib.hid h10
                clear h10
                go_wp2
                go_quiet (fail)
                go_wp2
                go_roundg (s.size - (p + 1))
                case measure => have := HN2.out; omega
                case rel =>
                  refine ⟨p + 1, rfl, by omega, by omega, HC2.out.set _ _ (by omega), (hg2.trans ?_).trans (grown_set _ _ _ _), ?_⟩
                  · repeat (first | exact grown_drewN _ _ _ | refine World.grownBy.trans ?_ (grown_drewN _ _ _))
                  · have e := HE2.out
                    rw [HDp.out, Lx.skip_within H10.out] at e
                    exact e
            · have hpe : Hid (p = s.size) := by
                have : p = s.size := by omega
                exact this
              go_wp2
              go_quiet (fail)
              go_wp2
              go_roundg (s.size - p)
              case measure =>
                have h1 := HN.out
                have h2 := hpe.out
                omega
              case rel =>
                refine ⟨p, rfl, hp, HC2.out, hg2.trans ?_, ?_⟩
                · repeat (first | exact grown_drewN _ _ _ | refine World.grownBy.trans ?_ (grown_drewN _ _ _))
                · have e := HE2.out
                  rw [List.drop_eq_nil_of_le (by rw [len_size]; have := hpe.out; omega), Lx.skip_end] at e
                  rw [List.drop_eq_nil_of_le (by rw [len_size]; have := hpe.out; omega), Lx.skip_end]
                  exact e
      · have HD : Hid (Lx.skip false (s.data.toList.drop (m + 1)) = Lx.skip false (s.data.toList.drop k)) := by
          have e := HE.out
          rw [HD0.out, Lx.skip_blank hb] at e
          exact e
        go_wp2
        go_roundg (s.size - (m + 1))
        case measure => have := HN.out; omega
        case rel => exact ⟨m + 1, rfl, by omega, (HC.out.drewN _).set _ _ (by omega), (hg.trans (grown_drewN _ _ _)).trans (grown_set _ _ _ _), HD.out⟩
    · have HZ : Hid (Lx.skip false (s.data.toList.drop k) = s.data.toList.drop m) := by
        have e := HE.out
        have hd0 : s.data.toList.drop m = [] := List.drop_eq_nil_of_le (by rw [len_size]; omega)
        rw [hd0, Lx.skip_end] at e
        rw [hd0]
        exact e.symm
      go_wp2
      go_wp2
      refine bodyPost_end (results_none rfl _ _ _) rfl ⟨rfl, ?_, ?_⟩
      · rw [skipAt_of HZ.out hm]
        exact HC.out
      · repeat (first | exact hg | refine World.grownBy.trans ?_ (grown_drewN _ _ _))
end Go.Proofs.YtbhdkkkaeabkhaaGreatDoor
