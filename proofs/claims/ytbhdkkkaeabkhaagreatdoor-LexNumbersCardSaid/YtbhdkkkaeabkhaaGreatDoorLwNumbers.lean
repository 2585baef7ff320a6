/-
  The walk of LexNumbers.
-/
import Derived.Test.YtbhdkkkaeabkhaaGreatDoorLwDigits
namespace Go.Proofs.YtbhdkkkaeabkhaaGreatDoor
open Go.RowKit Go.Shelf
set_option linter.unusedSimpArgs false
set_option linter.unusedVariables false
attribute [local go_sem high] tokEq

theorem data_join (a b c : ByteArray) : (a ++ b ++ c).data.toList = a.data.toList ++ (b.data.toList ++ c.data.toList) := by
  rw [ByteArray.data_append, ByteArray.data_append]
  simp

set_option maxRecDepth 100000 in
set_option maxHeartbeats 8000000 in
theorem lawNumbers (n : Int) (h0 : -9223372036854775808 ≤ n) (h1 : n ≤ 9223372036854775807) (w : World) (hG : GL w) (hN : NG ≤ w.heap.size) : Calls Tryz.prog 12 #[.int .i64 n] w fun e w' => e = .returned (.bool true) ∧ LW w w' := by
  have H0 := LW.refl hG hN
  clear hG hN
  obtain ⟨k, hk, hkn⟩ : ∃ k : Nat, k ≤ 9223372036854775807 ∧ ((n < 0 ∧ -1 - n = (k : Int)) ∨ (¬ n < 0 ∧ n = (k : Int))) := by
    by_cases h : n < 0
    · exact ⟨(-1 - n).toNat, by omega, .inl ⟨h, by omega⟩⟩
    · exact ⟨n.toNat, by omega, .inr ⟨h, by omega⟩⟩
  obtain ⟨hJ, hT⟩ := Lx.number_law k hk
  have hdl : (Lib.decDigits k).length ≤ 20 := by
    rw [Lib.decDigits_length]
    have := nD_le 19 k (by omega)
    omega
  obtain ⟨D, hD⟩ : ∃ D, Lib.decDigits k = D := ⟨_, rfl⟩
  rw [hD] at hJ hT hdl
  obtain ⟨B, hB⟩ : ∃ B : ByteArray, (⟨D.toArray⟩ : ByteArray) = B := ⟨_, rfl⟩
  have hBs : (B.size : Int) ≤ 20 := by
    rw [← hB]
    show ((D.length : Nat) : Int) ≤ 20
    omega
  have hdg : ∀ W, LW w W → Calls Tryz.prog 37 #[.int .i64 (k : Int)] W fun e W' => e = .returned (.string B) ∧ LW w W' := fun W h => (refDigits k W hk h.g h.n).mono fun e W' h' => ⟨by rw [h'.1, hD, hB], h.trans h'.2⟩
  have htk : ∀ W, LW w W → Calls Tryz.prog 16 #[.string (⟨#[120, 32]⟩ ++ B ++ ⟨#[59]⟩)] W fun e W' => ∃ v, e = .returned (.tuple #[v, .nilIface]) ∧ LW w W' ∧ ToksIn W' v [⟨0, 1, [120], 0⟩, ⟨2, 4, [], k⟩, ⟨((2 + D.length : Nat) : Int), 6, [59], 0⟩] := fun W h =>
    lwTokensOk h _ (by rw [ByteArray.size_append, ByteArray.size_append]; show 2 + B.size + 1 ≤ _; omega) (by rw [data_join, ← hB]; exact hT)
  have hjn : ∀ X W, LW X W → Calls Tryz.prog 18 #[.slice (some ⟨W.heap.size, 0, none⟩) 1 1] (W.alloc (.cells #[.int .i64 0, .int .i64 4, .string ⟨#[]⟩, .int .i64 (k : Int)] 26)) fun e W' => e = .returned (.tuple #[.string B, .int .i64 0]) ∧ LW X W' := by
    intro X W h
    rw [← hB]
    refine lwJoinNew h [⟨0, 4, [], k⟩] 1 rfl (by simp) ?_ hJ
    intro t ht
    rw [List.mem_singleton] at ht
    subst ht
    exact ⟨by simp, by show (-9223372036854775808 : Int) ≤ (k : Int); omega, by show (k : Int) ≤ 9223372036854775807; omega⟩
  clear hJ hT hD hB hdl
  go_enter Tryz.func12, Tryz.ntmps12
  rcases hkn with ⟨hn, hk'⟩ | ⟨hn, hk'⟩
  · go_upto_region 6 with (first
      | (go_at_call 37; refine (hdg _ (by assumption)).mono ?_; clear hdg; rintro e W1 ⟨rfl, H1⟩)
      | (go_at_call 16; refine (htk _ (by assumption)).mono ?_; clear htk; rintro e W2 ⟨v, rfl, H2, hv⟩)
      | (go_at_call 15; refine (lwTok (H2.self) _ _ _ _).mono ?_; rintro e W3 ⟨rfl, H3⟩)
      | (go_at_call 18; refine (hjn _ _ H3).mono ?_; clear hjn; rintro e W4 ⟨rfl, H4⟩))
    obtain ⟨a0, c0, rfl⟩ := hv.slice
    have hv4 := hv.below H4.b
    obtain ⟨g, cur, fr, rfl, hgb, hcur⟩ := hv4.at (m := 1) (by simp)
    obtain ⟨t0, t1, t2, t3⟩ := toks_at hgb hcur (m := 1) (by simp)
    have hgl := lt_of_block hgb
    have H8 := H2.trans H4
    simp only [List.getElem_cons_succ, List.getElem_cons_zero, Nat.one_mul] at t0 t1 t2 t3
    have hdr : ∀ X, (LW w X ∧ LW W4 X ∧ X.cell? ⟨g, 4, none⟩ = some (.int .i64 2) ∧ X.cell? ⟨g, 4 + 1, none⟩ = some (.int .i64 4) ∧ X.cell? ⟨g, 4 + 2, none⟩ = some (.string ⟨#[]⟩) ∧ X.cell? ⟨g, 4 + 3, none⟩ = some (.int .i64 (k : Int))) →
        (LW w X.drew ∧ LW W4 X.drew ∧ X.drew.cell? ⟨g, 4, none⟩ = some (.int .i64 2) ∧ X.drew.cell? ⟨g, 4 + 1, none⟩ = some (.int .i64 4) ∧ X.drew.cell? ⟨g, 4 + 2, none⟩ = some (.string ⟨#[]⟩) ∧ X.drew.cell? ⟨g, 4 + 3, none⟩ = some (.int .i64 (k : Int))) :=
      fun X h => ⟨h.1.drewN 1, h.2.1.drewN 1, h.2.2.1, h.2.2.2.1, h.2.2.2.2.1, h.2.2.2.2.2⟩
    have hst : ∀ X, LW w X → LW W4 X → (LW w X ∧ LW W4 X ∧ X.cell? ⟨g, 4, none⟩ = some (.int .i64 2) ∧ X.cell? ⟨g, 4 + 1, none⟩ = some (.int .i64 4) ∧ X.cell? ⟨g, 4 + 2, none⟩ = some (.string ⟨#[]⟩) ∧ X.cell? ⟨g, 4 + 3, none⟩ = some (.int .i64 (k : Int))) :=
      fun X h h' => ⟨h, h', (World.cell?_of_block (h'.b.block g hgl)).trans t0, (World.cell?_of_block (h'.b.block g hgl)).trans t1, (World.cell?_of_block (h'.b.block g hgl)).trans t2, (World.cell?_of_block (h'.b.block g hgl)).trans t3⟩
    have hS4 := hst W4 H8 H4.self
    have hct : ∀ X, (LW w X ∧ LW W4 X ∧ X.cell? ⟨g, 4, none⟩ = some (.int .i64 2) ∧ X.cell? ⟨g, 4 + 1, none⟩ = some (.int .i64 4) ∧ X.cell? ⟨g, 4 + 2, none⟩ = some (.string ⟨#[]⟩) ∧ X.cell? ⟨g, 4 + 3, none⟩ = some (.int .i64 (k : Int))) →
        Calls Tryz.prog 15 #[.int .i64 4, .int .i64 2, .int .i64 (k : Int), .string ⟨#[]⟩] X fun e X' => e = .returned (.agg #[.int .i64 2, .int .i64 4, .string ⟨#[]⟩, .int .i64 (k : Int)]) ∧ (LW w X' ∧ LW W4 X' ∧ X'.cell? ⟨g, 4, none⟩ = some (.int .i64 2) ∧ X'.cell? ⟨g, 4 + 1, none⟩ = some (.int .i64 4) ∧ X'.cell? ⟨g, 4 + 2, none⟩ = some (.string ⟨#[]⟩) ∧ X'.cell? ⟨g, 4 + 3, none⟩ = some (.int .i64 (k : Int))) :=
      fun X h => (lwTok h.2.1 4 2 k ⟨#[]⟩).mono fun e X' h' => ⟨h'.1, hst X' (H8.trans h'.2) h'.2⟩
    have hcr : ∀ X, (LW w X ∧ LW W4 X ∧ X.cell? ⟨g, 4, none⟩ = some (.int .i64 2) ∧ X.cell? ⟨g, 4 + 1, none⟩ = some (.int .i64 4) ∧ X.cell? ⟨g, 4 + 2, none⟩ = some (.string ⟨#[]⟩) ∧ X.cell? ⟨g, 4 + 3, none⟩ = some (.int .i64 (k : Int))) →
        Calls Tryz.prog 3 #[] X fun e X' => e = .returned (.bool true) ∧ (LW w X' ∧ LW W4 X' ∧ X'.cell? ⟨g, 4, none⟩ = some (.int .i64 2) ∧ X'.cell? ⟨g, 4 + 1, none⟩ = some (.int .i64 4) ∧ X'.cell? ⟨g, 4 + 2, none⟩ = some (.string ⟨#[]⟩) ∧ X'.cell? ⟨g, 4 + 3, none⟩ = some (.int .i64 (k : Int))) :=
      fun X h => (lwRuns h.2.1).mono fun e X' h' => ⟨h'.1, hst X' (H8.trans h'.2) h'.2⟩
    clear hv hv4 hgb hcur t0 t1 t2 t3 hst
    go_region_held3 (fun X => LW w X ∧ LW W4 X ∧ X.cell? ⟨g, 4, none⟩ = some (.int .i64 2) ∧ X.cell? ⟨g, 4 + 1, none⟩ = some (.int .i64 4) ∧ X.cell? ⟨g, 4 + 2, none⟩ = some (.string ⟨#[]⟩) ∧ X.cell? ⟨g, 4 + 3, none⟩ = some (.int .i64 (k : Int)))
      (first | assumption | exact hdr _ hS4)
      (first
        | (go_at_call 15; refine (hct _ (by assumption)).mono ?_; rintro e X5 ⟨rfl, hS5⟩)
        | (go_at_call 3; refine (hcr _ (by assumption)).mono ?_; rintro e X6 ⟨rfl, hS6⟩))
    go_wp2
    go_ret
    exact ⟨rfl, hS6.1⟩
  · go_upto_region 6 with (first
      | (go_at_call 37; refine (hdg _ (by assumption)).mono ?_; clear hdg; rintro e W1 ⟨rfl, H1⟩)
      | (go_at_call 16; refine (htk _ (by assumption)).mono ?_; clear htk; rintro e W2 ⟨v, rfl, H2, hv⟩)
      | (go_at_call 15; refine (lwTok (H2.self) _ _ _ _).mono ?_; rintro e W3 ⟨rfl, H3⟩)
      | (go_at_call 18; refine (hjn _ _ H3).mono ?_; clear hjn; rintro e W4 ⟨rfl, H4⟩))
    obtain ⟨a0, c0, rfl⟩ := hv.slice
    have hv4 := hv.below H4.b
    obtain ⟨g, cur, fr, rfl, hgb, hcur⟩ := hv4.at (m := 1) (by simp)
    obtain ⟨t0, t1, t2, t3⟩ := toks_at hgb hcur (m := 1) (by simp)
    have hgl := lt_of_block hgb
    have H8 := H2.trans H4
    simp only [List.getElem_cons_succ, List.getElem_cons_zero, Nat.one_mul] at t0 t1 t2 t3
    have hdr : ∀ X, (LW w X ∧ LW W4 X ∧ X.cell? ⟨g, 4, none⟩ = some (.int .i64 2) ∧ X.cell? ⟨g, 4 + 1, none⟩ = some (.int .i64 4) ∧ X.cell? ⟨g, 4 + 2, none⟩ = some (.string ⟨#[]⟩) ∧ X.cell? ⟨g, 4 + 3, none⟩ = some (.int .i64 (k : Int))) →
        (LW w X.drew ∧ LW W4 X.drew ∧ X.drew.cell? ⟨g, 4, none⟩ = some (.int .i64 2) ∧ X.drew.cell? ⟨g, 4 + 1, none⟩ = some (.int .i64 4) ∧ X.drew.cell? ⟨g, 4 + 2, none⟩ = some (.string ⟨#[]⟩) ∧ X.drew.cell? ⟨g, 4 + 3, none⟩ = some (.int .i64 (k : Int))) :=
      fun X h => ⟨h.1.drewN 1, h.2.1.drewN 1, h.2.2.1, h.2.2.2.1, h.2.2.2.2.1, h.2.2.2.2.2⟩
    have hst : ∀ X, LW w X → LW W4 X → (LW w X ∧ LW W4 X ∧ X.cell? ⟨g, 4, none⟩ = some (.int .i64 2) ∧ X.cell? ⟨g, 4 + 1, none⟩ = some (.int .i64 4) ∧ X.cell? ⟨g, 4 + 2, none⟩ = some (.string ⟨#[]⟩) ∧ X.cell? ⟨g, 4 + 3, none⟩ = some (.int .i64 (k : Int))) :=
      fun X h h' => ⟨h, h', (World.cell?_of_block (h'.b.block g hgl)).trans t0, (World.cell?_of_block (h'.b.block g hgl)).trans t1, (World.cell?_of_block (h'.b.block g hgl)).trans t2, (World.cell?_of_block (h'.b.block g hgl)).trans t3⟩
    have hS4 := hst W4 H8 H4.self
    have hct : ∀ X, (LW w X ∧ LW W4 X ∧ X.cell? ⟨g, 4, none⟩ = some (.int .i64 2) ∧ X.cell? ⟨g, 4 + 1, none⟩ = some (.int .i64 4) ∧ X.cell? ⟨g, 4 + 2, none⟩ = some (.string ⟨#[]⟩) ∧ X.cell? ⟨g, 4 + 3, none⟩ = some (.int .i64 (k : Int))) →
        Calls Tryz.prog 15 #[.int .i64 4, .int .i64 2, .int .i64 (k : Int), .string ⟨#[]⟩] X fun e X' => e = .returned (.agg #[.int .i64 2, .int .i64 4, .string ⟨#[]⟩, .int .i64 (k : Int)]) ∧ (LW w X' ∧ LW W4 X' ∧ X'.cell? ⟨g, 4, none⟩ = some (.int .i64 2) ∧ X'.cell? ⟨g, 4 + 1, none⟩ = some (.int .i64 4) ∧ X'.cell? ⟨g, 4 + 2, none⟩ = some (.string ⟨#[]⟩) ∧ X'.cell? ⟨g, 4 + 3, none⟩ = some (.int .i64 (k : Int))) :=
      fun X h => (lwTok h.2.1 4 2 k ⟨#[]⟩).mono fun e X' h' => ⟨h'.1, hst X' (H8.trans h'.2) h'.2⟩
    have hcr : ∀ X, (LW w X ∧ LW W4 X ∧ X.cell? ⟨g, 4, none⟩ = some (.int .i64 2) ∧ X.cell? ⟨g, 4 + 1, none⟩ = some (.int .i64 4) ∧ X.cell? ⟨g, 4 + 2, none⟩ = some (.string ⟨#[]⟩) ∧ X.cell? ⟨g, 4 + 3, none⟩ = some (.int .i64 (k : Int))) →
        Calls Tryz.prog 3 #[] X fun e X' => e = .returned (.bool true) ∧ (LW w X' ∧ LW W4 X' ∧ X'.cell? ⟨g, 4, none⟩ = some (.int .i64 2) ∧ X'.cell? ⟨g, 4 + 1, none⟩ = some (.int .i64 4) ∧ X'.cell? ⟨g, 4 + 2, none⟩ = some (.string ⟨#[]⟩) ∧ X'.cell? ⟨g, 4 + 3, none⟩ = some (.int .i64 (k : Int))) :=
      fun X h => (lwRuns h.2.1).mono fun e X' h' => ⟨h'.1, hst X' (H8.trans h'.2) h'.2⟩
    clear hv hv4 hgb hcur t0 t1 t2 t3 hst
    go_region_held3 (fun X => LW w X ∧ LW W4 X ∧ X.cell? ⟨g, 4, none⟩ = some (.int .i64 2) ∧ X.cell? ⟨g, 4 + 1, none⟩ = some (.int .i64 4) ∧ X.cell? ⟨g, 4 + 2, none⟩ = some (.string ⟨#[]⟩) ∧ X.cell? ⟨g, 4 + 3, none⟩ = some (.int .i64 (k : Int)))
      (first | assumption | exact hdr _ hS4)
      (first
        | (go_at_call 15; refine (hct _ (by assumption)).mono ?_; rintro e X5 ⟨rfl, hS5⟩)
        | (go_at_call 3; refine (hcr _ (by assumption)).mono ?_; rintro e X6 ⟨rfl, hS6⟩))
    go_wp2
    go_ret
    exact ⟨rfl, hS6.1⟩

end Go.Proofs.YtbhdkkkaeabkhaaGreatDoor
