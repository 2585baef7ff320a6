/-
  The walk of LexWords.
-/
import Derived.Test.YtbhdkkkaeabkhaaGreatDoorLwLetters
import Derived.Test.YtbhdkkkaeabkhaaGreatDoorLxWords
namespace Go.Proofs.YtbhdkkkaeabkhaaGreatDoor
open Go.RowKit Go.Shelf
set_option linter.unusedSimpArgs false
set_option linter.unusedVariables false

theorem lwLetters {w W : World} (h : LW w W) (s : ByteArray) (hs : s.size ≤ 9223372036854775807) : Calls Tryz.prog 36 #[.string s] W fun e W' => ∃ B : ByteArray, e = .returned (.string B) ∧ AllLetters B ∧ B.size ≤ 20 ∧ LW w W' :=
  (lawLetters s (by omega) W).mono fun e W' ⟨B, h1, h2, h3, h4⟩ => ⟨B, h1, h2, h3, by rw [h4]; exact h⟩
theorem data_two (a b : ByteArray) : (a ++ b).data.toList = a.data.toList ++ b.data.toList := by
  rw [ByteArray.data_append]
  simp
theorem isEmpty_size (b : ByteArray) : b.toList.isEmpty = decide (b.size = 0) := by
  rw [ByteArray.toList_eq, Bool.eq_iff_iff, List.isEmpty_iff, decide_eq_true_eq, ← len_size]
  exact List.length_eq_zero_iff.symm

set_option maxRecDepth 100000 in
set_option maxHeartbeats 8000000 in
theorem lawWords (s : ByteArray) (hs : s.size ≤ 9223372036854775807) (t : ByteArray) (ht : t.size ≤ 9223372036854775807) (w : World) (hG : GL w) (hN : NG ≤ w.heap.size) : Calls Tryz.prog 11 #[.string s, .string t] w fun e w' => e = .returned (.bool true) ∧ LW w w' := by
  have H0 := LW.refl hG hN
  have hla := fun W (h : LW w W) => lwLetters h s hs
  have hlb := fun W (h : LW w W) => lwLetters h t ht
  clear hG hN hs ht
  go_enter Tryz.func11, Tryz.ntmps11
  go_upto_region 3 with (first
    | (go_at_call 36; refine (hla _ H0).mono ?_; clear hla; rintro e W1 ⟨A, rfl, hA, hAs, H1⟩)
    | (go_at_call 36; refine (hlb _ H1).mono ?_; clear hlb; rintro e W2 ⟨B, rfl, hB, hBs, H2⟩))
  have ha0 : (A.size : Int) ≤ 20 := by omega
  have hb0 : (B.size : Int) ≤ 20 := by omega
  have ha1 : (0 : Int) ≤ (A.size : Int) := by omega
  have hb1 : (0 : Int) ≤ (B.size : Int) := by omega
  have hAe := isEmpty_size A
  by_cases hz : A.size = 0
  · rw [decide_eq_true hz] at hAe
    clear hz
    go_wp2_with (go_at_call 3; refine (lwRuns H2).mono ?_; rintro e W3 ⟨rfl, H3⟩)
    go_ret
    exact ⟨rfl, H3⟩
  · rw [decide_eq_false hz] at hAe
    by_cases hlen : 32 < A.size + B.size
    · have hi : (32 : Int) < (A.size : Int) + (B.size : Int) := by omega
      clear hz
      go_wp2_with (go_at_call 3; refine (lwRuns H2).mono ?_; rintro e W3 ⟨rfl, H3⟩)
      go_ret
      exact ⟨rfl, H3⟩
    · have hi : ¬ (32 : Int) < (A.size : Int) + (B.size : Int) := by omega
      have hA0 : A.data.toList ≠ [] := by
        intro e
        have := len_size A
        rw [e] at this
        exact hz this.symm
      obtain ⟨hT1, hT2⟩ := Lx.names_law hA hB hA0 (by rw [len_size, len_size]; omega)
      obtain ⟨C, hC⟩ : ∃ C, A ++ B = C := ⟨_, rfl⟩
      have hCl : A.data.toList ++ B.data.toList = C.data.toList := by rw [← hC, data_two]
      have hCs : C.size = A.size + B.size := by rw [← hC, ByteArray.size_append]
      rw [hCl] at hT1
      have hws : Calls Tryz.prog 20 #[] W2 fun e W' => e = .returned (.slice (some ⟨W2.heap.size, 0, none⟩) 25 25) ∧ LW w W' ∧ W'.heap[W2.heap.size]? = some (.cells wordCells 9 (0, 0)) := (lexWords W2 H2.g.gs.asc).mono fun e W' h' => by
        obtain ⟨rfl, rfl⟩ := h'
        exact ⟨rfl, H2.alloc _, heap_alloc_new _ _⟩
      have HT1 := Lib.hid hT1
      have HT2 := Lib.hid hT2
      have HC := Lib.hid hCl
      have HAA := Lib.hid hA0
      have HCs := Lib.hid hCs
      clear hT1 hT2 hCl hA0 hCs
      go_upto_region 7 with (go_at_call 20; refine hws.mono ?_; clear hws; rintro e W3 ⟨rfl, H3, hW3⟩)
      obtain ⟨Q, hQ⟩ : ∃ Q, W2.heap.size = Q := ⟨_, rfl⟩
      rw [hQ] at hW3 ⊢
      have HW3 := Lib.hid hW3
      have hQ3 := lt_of_block hW3
      clear hW3 hQ
      go_wp2_with fail
      go_loopg [5, 7] 25 (fun n r v wr => ∃ (m : Nat), n = 25 - m ∧ r = .bool ((Lx.words.take m).contains C.data.toList) ∧ v = .int .i64 (m : Int) ∧ m ≤ 25 ∧ LW W3 wr)
      case atStart => exact ⟨0, rfl, rfl, rfl, Nat.zero_le _, H3.self⟩
      case round =>
        obtain ⟨m, hn, rfl, rfl, hm, hw⟩ := hrel
        have HN := Lib.hid hn
        clear hn
        by_cases hlt : m < 25
        · have hi2 : (m : Int) < 25 := by omega
          have hi0 : (0 : Int) ≤ (m : Int) := by omega
          have hgb := (hw.b.block Q hQ3).trans HW3.out
          have t0 := (cell_of hgb m).trans (words_at m hlt)
          have hgl := lt_of_block hgb
          have hgr := words_grow m hlt C.data.toList
          obtain ⟨x, hx⟩ : ∃ x, Lx.words.getD m [] = x := ⟨_, rfl⟩
          rw [hx] at t0 hgr
          have hcmp : (x == C.toList) = (x == C.data.toList) := by rw [ByteArray.toList_eq]
          have HG := Lib.hid hgr
          clear hgr hx hgb
          cases hr : (Lx.words.take m).contains C.data.toList with
          | true =>
            have HR := Lib.hid (show (Lx.words.take (m + 1)).contains C.data.toList = true by rw [HG.out, hr]; rfl)
            clear hr
            go_wp2
            go_roundg (25 - (m + 1))
            case measure => have := HN.out; omega
            case rel => exact ⟨m + 1, rfl, by rw [HR.out], by simp, hlt, hw⟩
          | false =>
            have HR := Lib.hid (show (Lx.words.take (m + 1)).contains C.data.toList = (x == C.toList) by rw [HG.out, hr, hcmp]; rfl)
            clear hr hcmp
            go_wp2
            go_roundg (25 - (m + 1))
            case measure => have := HN.out; omega
            case rel => exact ⟨m + 1, rfl, by rw [HR.out], by simp, hlt, hw⟩
        · have hi2 : ¬ (m : Int) < 25 := by omega
          have hme : m = 25 := by omega
          subst hme
          have htk : Lx.words.take 25 = Lx.words := rfl
          rw [htk]
          have HW := Lib.hid (H3.trans hw)
          have hcl : 0 < A.size := by omega
          have hci : (0 : Int) < (A.size : Int) := by omega
          obtain ⟨c, hc⟩ : ∃ c, A[0]'hcl = c := ⟨_, rfl⟩
          have hhead : C.data.toList.head? = some c := by
            rw [← HC.out, List.head?_append, List.head?_eq_getElem?, List.getElem?_eq_getElem (by rw [len_size]; exact hcl)]
            show some (A[0]'hcl) = _
            rw [hc]
          obtain ⟨nk, hnk⟩ : ∃ nk : Nat, Lx.nameKind C.data.toList = nk := ⟨_, rfl⟩
          have hnk' := hnk
          unfold Lx.nameKind at hnk'
          rw [hhead, Option.map_some, Option.getD_some] at hnk'
          have hg : Lx.great c = (decide ((65 : Int) ≤ (c.toNat : Int)) && decide ((c.toNat : Int) ≤ 90)) := by
            unfold Lx.great
            rw [Bool.eq_iff_iff]
            simp only [Bool.and_eq_true, decide_eq_true_eq]
            omega
          obtain ⟨wb, hwb⟩ : ∃ wb, Lx.words.contains C.data.toList = wb := ⟨_, rfl⟩
          rw [hwb] at hnk' ⊢
          rw [hg] at hnk'
          have hT1 := HT1.out
          rw [hnk] at hT1
          obtain ⟨nkA, hnkA⟩ : ∃ nk : Nat, Lx.nameKind A.data.toList = nk := ⟨_, rfl⟩
          have hT2 := HT2.out
          rw [hnkA] at hT2
          have hb2 : (if B.data.toList = [] then ([] : List Lx.Tok) else [⟨((A.data.toList.length + 1 : Nat) : Int), Lx.nameKind B.data.toList, B.data.toList, 0⟩]).length = if B.size = 0 then 0 else 1 := by
            rw [← len_size]
            by_cases e : B.data.toList = []
            · simp [e]
            · rw [if_neg e, if_neg (fun h => e (List.length_eq_zero_iff.1 h))]; rfl
          obtain ⟨T2, hT2l⟩ : ∃ T2, (if B.data.toList = [] then ([] : List Lx.Tok) else [⟨((A.data.toList.length + 1 : Nat) : Int), Lx.nameKind B.data.toList, B.data.toList, 0⟩]) = T2 := ⟨_, rfl⟩
          rw [hT2l] at hT2 hb2
          have hk1 : ∀ X, LW w X → Calls Tryz.prog 16 #[.string C] X fun e X' => ∃ g cp, e = .returned (.tuple #[.slice (some ⟨g, 0, none⟩) 1 cp, .nilIface]) ∧ LW w X' ∧ g < X'.heap.size ∧ X'.cell? ⟨g, 1, none⟩ = some (.int .i64 (nk : Int)) ∧ X'.cell? ⟨g, 2, none⟩ = some (.string C) ∧ X'.cell? ⟨g, 3, none⟩ = some (.int .i64 0) := fun X h => by
            refine (lwTokensOk h C (by have := HCs.out; omega) hT1).mono ?_
            rintro e X' ⟨v, rfl, h1, hv⟩
            obtain ⟨a, cp, rfl⟩ := hv.slice
            obtain ⟨g, cur, fr, rfl, hgb, hcur⟩ := hv.at (m := 0) (by simp)
            obtain ⟨-, t1, t2, t3⟩ := toks_at hgb hcur (m := 0) (by simp)
            exact ⟨g, cp, rfl, h1, lt_of_block hgb, by simpa using t1, by simpa [mk_back] using t2, by simpa using t3⟩
          obtain ⟨E, hE⟩ : ∃ E : ByteArray, A ++ ⟨#[32]⟩ = E := ⟨_, rfl⟩
          obtain ⟨D, hD⟩ : ∃ D : ByteArray, E ++ B = D := ⟨_, rfl⟩
          have e1 : D.data.toList = A.data.toList ++ 32 :: B.data.toList := by
            rw [← hD, data_two, ← hE, data_two, List.append_assoc]
            rfl
          have e2 : D.size ≤ 140737488351232 := by
            rw [← len_size, e1, List.length_append, List.length_cons, len_size, len_size]
            omega
          have e3 : (E.size : Int) ≤ 21 := by
            rw [← hE, ByteArray.size_append, show (⟨#[32]⟩ : ByteArray).size = 1 from rfl]
            omega
          have hT2' : Lx.toks D.data.toList = ((⟨0, nkA, A.data.toList, 0⟩ : Lx.Tok) :: T2, none) := by rw [e1]; exact hT2
          have hk2 : ∀ X, LW w X → Calls Tryz.prog 16 #[.string D] X fun e X' => ∃ g cp, e = .returned (.tuple #[.slice (some ⟨g, 0, none⟩) (if B.size = 0 then 1 else 2) cp, .nilIface]) ∧ LW w X' ∧ LW X X' ∧ g < X'.heap.size ∧ X'.cell? ⟨g, 2, none⟩ = some (.string A) := fun X h => by
            refine (lwTokensOk h.self D e2 hT2').mono ?_
            rintro e X' ⟨v, rfl, h1, hv⟩
            obtain ⟨a, cp, rfl⟩ := hv.slice
            obtain ⟨g, cur, fr, rfl, hgb, hcur⟩ := hv.at (m := 0) (by simp)
            obtain ⟨-, -, t2, -⟩ := toks_at hgb hcur (m := 0) (by simp)
            refine ⟨g, cp, ?_, h.trans h1, h1, lt_of_block hgb, by simpa [mk_back] using t2⟩
            rw [List.length_cons, hb2]
            split <;> rfl
          have hBe := isEmpty_size B
          clear e1 e2 hT2' hT1 hT2 hT2l hb2 hhead hg hnk hnkA hw H0 H2 hA hB H3 HT1 HT2
          have hnk2 : (wb = true ∧ nk = 3) ∨ (wb = false ∧ nk = if (decide ((65 : Int) ≤ (c.toNat : Int)) && decide ((c.toNat : Int) ≤ 90)) = true then 2 else 1) := by
            cases wb
            · exact .inr ⟨rfl, hnk'.symm⟩
            · exact .inl ⟨rfl, hnk'.symm⟩
          clear hnk' hwb
          have hnk3 : (wb = true ∧ (nk : Int) = 3) ∨ (wb = false ∧ (nk : Int) = if (65 : Int) ≤ (c.toNat : Int) ∧ (c.toNat : Int) ≤ 90 then 2 else 1) := by
            rcases hnk2 with ⟨h1, h2⟩ | ⟨h1, h2⟩
            · exact .inl ⟨h1, by omega⟩
            · refine .inr ⟨h1, ?_⟩
              simp only [Bool.and_eq_true, decide_eq_true_eq] at h2
              rw [h2]
              split <;> rfl
          clear hnk2
          by_cases a1 : (65 : Int) ≤ (c.toNat : Int)
          all_goals by_cases a2 : (c.toNat : Int) ≤ 90
          all_goals try (exfalso; omega)
          all_goals simp only [a1, a2, and_true, and_false, true_and, false_and, if_true, if_false, and_self] at hnk3
          all_goals rcases hnk3 with ⟨rfl, hnk4⟩ | ⟨rfl, hnk4⟩
          all_goals rw [hnk4] at hk1
          all_goals by_cases hB0 : B.size = 0
          all_goals simp only [hB0, decide_true, decide_false, if_true, if_false] at hBe hk2
          all_goals clear hnk4
          all_goals go_wp2_with (first
            | (go_at_call 16; refine (hk1 _ HW.out).mono ?_; clear hk1; rintro e W5 ⟨g, cp, rfl, H5, hgl, t1, t2, t3⟩)
            | (go_at_call 16; refine (hk2 _ H5).mono ?_; clear hk2; rintro e W6 ⟨g2, cp2, rfl, H6, H56, hgl2, u2⟩; have hgl6 := Nat.lt_of_lt_of_le hgl H56.b.size; have t16 := (World.cell?_of_block (a := ⟨g, 1, none⟩) (H56.b.block g hgl)).trans t1)
            | (go_at_call 3; refine (lwRuns H6).mono ?_; rintro e W7 ⟨rfl, H7⟩))
          all_goals go_ret
          all_goals exact ⟨rfl, H7⟩

end Go.Proofs.YtbhdkkkaeabkhaaGreatDoor
