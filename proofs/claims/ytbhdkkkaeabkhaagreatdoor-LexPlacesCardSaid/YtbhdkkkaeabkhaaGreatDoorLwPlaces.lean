/-
  The walk of LexPlaces.
-/
import Derived.Test.YtbhdkkkaeabkhaaGreatDoorLwFew
import Derived.Test.YtbhdkkkaeabkhaaGreatDoorLxPlaces
namespace Go.Proofs.YtbhdkkkaeabkhaaGreatDoor
open Go.RowKit Go.Shelf
set_option linter.unusedSimpArgs false
set_option linter.unusedVariables false

theorem extract_toks (B : ByteArray) (a b : Nat) : (B.extract a b).data.toList = (B.data.toList.drop a).take (b - a) := Lib.extract_data B a b
theorem lwTokensNone {w W : World} (h : LW w W) (s : ByteArray) (hs : s.size ≤ 140737488351232) (hT : Lx.toks s.data.toList = ([], none)) :
    Calls Tryz.prog 16 #[.string s] W fun e W' => ∃ a c, e = .returned (.tuple #[.slice a 0 c, .nilIface]) ∧ LW w W' :=
  (lwTokensOk h s hs hT).mono fun e W' ⟨v, h1, h2, h3⟩ => by
    obtain ⟨a, c, rfl⟩ := h3.slice
    exact ⟨a, c, h1, h2⟩

set_option maxRecDepth 100000 in
set_option maxHeartbeats 8000000 in
theorem lawPlaces (s : ByteArray) (w : World) (hG : GL w) (hN : NG ≤ w.heap.size) : Calls Tryz.prog 10 #[.string s] w fun e w' => e = .returned (.bool true) ∧ LW w w' := by
  have H0 := LW.refl hG hN
  clear hG hN
  go_enter Tryz.func10, Tryz.ntmps10
  go_upto_region 2 with (go_at_call 22; refine (lwFew H0 s 4000 (by omega)).mono ?_; rintro e W1 ⟨B, rfl, hB, hBs, H1⟩)
  clear hB
  have hs1 : (B.size : Int) ≤ 4000 := by omega
  obtain ⟨⟨ts, o⟩, hT⟩ : ∃ r, Lx.toks B.data.toList = r := ⟨_, rfl⟩
  cases o with
  | some yx =>
    obtain ⟨y, x⟩ := yx
    have hk := lwTokensBad H1 B (by omega) hT
    clear hT
    go_wp2_with (first
      | (go_at_call 16; refine hk.mono ?_; clear hk; rintro e W2 ⟨g, rfl, H2, -⟩)
      | (go_at_call 3; refine (lwRuns H2).mono ?_; rintro e W3 ⟨rfl, H3⟩))
    go_ret
    exact ⟨rfl, H3⟩
  | none =>
    have hk := lwTokensOk H1 B (by omega) hT
    obtain ⟨hlaid, -⟩ := Lx.toks_laid hT
    have hcl : ts.length ≤ 65537 := by have := toks_length B.data.toList; rw [hT] at this; exact this
    have HLD := Lib.hid hlaid
    have HTT := Lib.hid hT
    clear hT hlaid
    go_upto_region 5 with (go_at_call 16; refine hk.mono ?_; clear hk; rintro e W2 ⟨v, rfl, H2, hv⟩)
    obtain ⟨a0, c0, rfl⟩ := hv.slice
    have HV := Lib.hid hv
    have hl1 : (ts.length : Int) ≤ 65537 := by omega
    clear hv
    go_wp2_with fail
    go_loopg [5, 6] (ts.length) (fun n r v wr => ∃ (m e : Nat), n = ts.length - m ∧ r = .int .i64 (e : Int) ∧ v = .int .i64 (m : Int) ∧ m ≤ ts.length ∧ e ≤ B.size ∧ LW W2 wr ∧ Lx.Laid B.data.toList e (ts.drop m))
    case atStart => exact ⟨0, 0, rfl, rfl, rfl, Nat.zero_le _, Nat.zero_le _, H2.self, HLD.out⟩
    case round =>
      obtain ⟨m, e, hn, rfl, rfl, hm, he, hw, hld⟩ := hrel
      have HN := Lib.hid hn
      clear hn
      have he0 : (0 : Int) ≤ (e : Int) := by omega
      have he1 : (e : Int) ≤ (B.size : Int) := by omega
      by_cases hlt : m < ts.length
      · have hi : (m : Int) < (ts.length : Int) := by omega
        have hi0 : (0 : Int) ≤ (m : Int) := by omega
        have hmi : (m : Int) ≤ 65537 := by omega
        obtain ⟨g, cur, fr, rfl, hgb, hcur⟩ := HV.out.at hlt
        have hgb' := (hw.b.block g (lt_of_block hgb)).trans hgb
        obtain ⟨t0, t1, t2, t3⟩ := toks_at hgb' hcur hlt
        have hgl := lt_of_block hgb'
        obtain ⟨t, ht⟩ : ∃ t, ts[m]'hlt = t := ⟨_, rfl⟩
        rw [ht] at t0 t1 t2 t3
        rw [List.drop_eq_getElem_cons hlt, ht] at hld
        obtain ⟨q, hq1, hq2, hq3, hq4, hq5, hq6, hq7, hq8⟩ := hld
        have hjn := fun Z X (h : LW Z X) => lwJoinNew h [t] 1 rfl (by simp) (by
          intro u hu
          rw [List.mem_singleton] at hu
          subst hu
          have := len_size B
          exact ⟨by omega, by omega, hq7.2.2⟩) (Lx.join_one hq4 (by have := len_size B; omega))
        have hjn' : ∀ Z X, LW Z X → Calls Tryz.prog 18 #[.slice (some ⟨X.heap.size, 0, none⟩) 1 1] (X.alloc (.cells #[.int .i64 (q : Int), .int .i64 t.kind, .string ⟨t.s.toArray⟩, .int .i64 t.n] 26)) fun e X' => e = .returned (.tuple #[.string ⟨(Lx.written t).1.toArray⟩, .int .i64 0]) ∧ LW Z X' := by
          intro Z X h
          rw [← hq1]
          exact hjn Z X h
        rw [hq1] at t0
        rw [len_size] at hq3
        obtain ⟨S, hS⟩ : ∃ S : ByteArray, (⟨(Lx.written t).1.toArray⟩ : ByteArray) = S := ⟨_, rfl⟩
        have hSs : (Lx.written t).1.length = S.size := by rw [← hS]; rfl
        have hSl : (Lx.written t).1 = S.data.toList := by rw [← hS]
        rw [hS] at hjn'
        rw [hSs] at hq3 hq5 hq8
        have hex : B.extract q (q + S.size) = S := by
          rw [← mk_back (B.extract q (q + S.size)), extract_toks, show q + S.size - q = S.size by omega, hq5, hSl, mk_back]
        obtain ⟨P, hP⟩ : ∃ P : ByteArray, B.extract e q = P := ⟨_, rfl⟩
        have hPt : Lx.toks P.data.toList = ([], none) := by rw [← hP, extract_toks]; exact hq6
        have hPs : P.size ≤ 140737488351232 := by
          rw [← len_size, ← hP, extract_toks, List.length_take, List.length_drop, len_size]
          omega
        have hpk := fun Z X (h : LW Z X) => lwTokensNone h P hPs hPt
        have q1 : (0 : Int) ≤ (q : Int) := by omega
        have q2 : (e : Int) ≤ (q : Int) := by omega
        have q3 : (q : Int) + (S.size : Int) ≤ (B.size : Int) := by omega
        have q4 : (q : Int) ≤ (B.size : Int) := by omega
        have q5 : ¬ (q : Int) < (e : Int) := by omega
        have q6 : (q : Int) ≤ (q : Int) + (S.size : Int) := by omega
        have q7 : (S.size : Int) ≤ 4000 := by omega
        have HQ8 := Lib.hid hq8
        clear hq1 hq4 hq5 hq6 hq7 hq8 hjn hS hSs hSl hPt hPs ht hgb hgb' hcur
        go_wp2_with (first
          | (go_at_call 18; refine (hjn' wr _ hw.self).mono ?_; clear hjn'; rintro e W5 ⟨rfl, H5⟩; have t5 := (World.cell?_of_block (a := ⟨g, m * 4, none⟩) (H5.b.block g hgl)).trans t0; have l5 := Nat.lt_of_lt_of_le hgl H5.b.size)
          | (go_at_call 16; refine (hpk wr _ H5).mono ?_; clear hpk; rintro e W6 ⟨a6, c6, rfl, H6⟩))
        go_roundg (ts.length - (m + 1))
        case measure => have := HN.out; omega
        case rel => exact ⟨m + 1, q + S.size, rfl, by simp, by simp, hlt, by omega, hw.trans H6, HQ8.out⟩
      · have hi : ¬ (m : Int) < (ts.length : Int) := by omega
        rw [List.drop_eq_nil_of_le (by omega)] at hld
        obtain ⟨_, hld2⟩ := hld
        obtain ⟨P, hP⟩ : ∃ P : ByteArray, B.extract e B.size = P := ⟨_, rfl⟩
        have hPt : Lx.toks P.data.toList = ([], none) := by
          rw [← hP, extract_toks, List.take_of_length_le (by rw [List.length_drop, len_size]; omega)]
          exact hld2
        have hPs : P.size ≤ 140737488351232 := by
          rw [← len_size, ← hP, extract_toks, List.length_take, List.length_drop, len_size]
          omega
        have hpk := fun Z X (h : LW Z X) => lwTokensNone h P hPs hPt
        clear hld2 hPt hPs
        go_wp2_with (first
          | (go_at_call 16; refine (hpk wr _ hw.self).mono ?_; clear hpk; rintro e W6 ⟨a6, c6, rfl, H6⟩; have H7 := H2.trans (hw.trans H6))
          | (go_at_call 3; refine (lwRuns H7).mono ?_; rintro e W8 ⟨rfl, H8⟩))
        go_ret
        exact ⟨rfl, H8⟩

end Go.Proofs.YtbhdkkkaeabkhaaGreatDoor
