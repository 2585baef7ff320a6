/-
  The walks of an error's own methods: Where, Errno.Error, (*Refusal).Error.
-/
import Derived.Test.YtbhdkkkaeabkhaaGreatDoorLxTokens
import Derived.Lib.AppendIntMem
namespace Go.Proofs.YtbhdkkkaeabkhaaGreatDoor
open Go.RowKit Go.Shelf
set_option linter.unusedSimpArgs false
set_option linter.unusedVariables false

theorem apiWhere (p : Int) (w : World) : Calls Tryz.prog 41 #[.agg #[.int .i64 p]] w fun e w' => e = .returned (.int .i64 p) ∧ w.grownBy w' none := by
  go_enter Tryz.func41, Tryz.ntmps41
  go_wp2
  go_ret
  exact ⟨rfl, World.grownBy_alloc _ _ _⟩

theorem ownNew (w : World) (base : Nat) (c : UInt8) (hb : base ≤ w.heap.size) : OwnB (w.alloc (.cells #[.int .u8 (c.toNat : Int)] 5)) base (.slice (some ⟨w.heap.size, 0, none⟩) 1 1) [c] :=
  ⟨rfl, .inr ⟨w.heap.size, 1, #[.int .u8 (c.toNat : Int)], rfl, hb, heap_alloc_new w _, Nat.le_refl _, by unfold maxLen; omega, rfl, rfl⟩⟩

set_option maxHeartbeats 4000000 in
set_option maxRecDepth 100000 in
theorem apiErrno (n : Int) (h0 : 0 ≤ n) (h1 : n ≤ 1000000) (w : World) : Calls Tryz.prog 65 #[.int .i64 n] w fun e w' => (∃ s, e = .returned (.string s) ∧ s.size ≤ 2000000) ∧ Below w.heap.size w w' := by
  go_enter Tryz.func65, Tryz.ntmps65
  by_cases e0 : n = 0
  · have b0 : (n == 0) = true := by simp [e0]
    clear e0
    go_wp2
    go_ret
    exact ⟨⟨_, rfl, by decide⟩, Below.refl _ _⟩
  · have b0 : (n == 0) = false := by simp [e0]
    by_cases e22 : n = 22
    · have b22 : (n == 22) = true := by simp [e22]
      clear e0 e22
      go_wp2
      go_ret
      exact ⟨⟨_, rfl, by decide⟩, Below.refl _ _⟩
    · have b22 : (n == 22) = false := by simp [e22]
      by_cases e23 : n = 23
      · have b23 : (n == 23) = true := by simp [e23]
        clear e0 e22 e23
        go_wp2
        go_ret
        exact ⟨⟨_, rfl, by decide⟩, Below.refl _ _⟩
      · have b23 : (n == 23) = false := by simp [e23]
        have hneg : ¬ n < 0 := by omega
        have hpos : 0 < n := by omega
        clear e22 e23
        go_wp2
        obtain ⟨i0, hi, hz0, hz1, hz2⟩ := info_parts infoU8
        have hB0 : OwnB w w.heap.size (.slice none 0 0) [] := OwnB.nil _ _
        go_loopg [3, 4] n.toNat (fun k x v wr => ∃ (y : Int) (l : List UInt8), k = y.toNat ∧ x = .int .i64 y ∧ 0 ≤ y ∧ y ≤ n ∧ (l.length : Int) + y ≤ n ∧ (0 < y ∨ l ≠ []) ∧ (l = [] → v = .slice none 0 0) ∧ OwnB wr w.heap.size v l ∧ Below w.heap.size w wr)
        case atStart => exact ⟨n, [], rfl, rfl, by omega, by omega, by simp, .inl (by omega), fun _ => rfl, hB0, Below.refl _ _⟩
        case round =>
          obtain ⟨y, l, hk, rfl, hy0, hyn, hly, hor, hnl, hB, hb⟩ := hrel
          have HK := Lib.hid hk
          clear hk hB0
          obtain ⟨A0, cap, rfl⟩ := hB.slice
          have hsz := hb.size
          by_cases hy : 0 < y
          · have hmod : y.tmod 10 = y % 10 := by rw [Int.tmod_eq_emod_of_nonneg hy0]
            have hdiv : y.tdiv 10 = y / 10 := by rw [Int.tdiv_eq_ediv_of_nonneg hy0]
            obtain ⟨c0, hc0⟩ : ∃ c0 : UInt8, 48 + y % 10 = (c0.toNat : Int) := ⟨UInt8.ofNat (48 + y % 10).toNat, by
              rw [UInt8.toNat_ofNat']
              have h1 : (48 + y % 10).toNat < 256 := by omega
              omega⟩
            have hnew := ownNew wr w.heap.size c0 hsz
            cases l with
            | nil =>
              have hh := hnl rfl
              injection hh with h1 h2 h3
              subst h1
              subst h3
              clear hnl
              go_wp2
              go_roundg (y / 10).toNat
              case measure => have := HK.out; omega
              case rel => exact ⟨y / 10, [c0], rfl, rfl, by omega, by omega, by simp; omega, .inr (by simp), (by simp), hnew, hb.alloc hsz _⟩
            | cons c l =>
              obtain ⟨g, cap', cur, hh, hbg, hgb, hrest⟩ : ∃ g cap' cur, Value.slice A0 (c :: l).length cap = .slice (some ⟨g, 0, none⟩) (c :: l).length cap' ∧ w.heap.size ≤ g ∧ wr.heap[g]? = some (.cells cur 5 (0, 0)) ∧ True := by
                rcases hB.2 with ⟨hh, h0⟩ | ⟨g, cap', cur, hh, hbg, hgb, _⟩
                · cases h0
                · exact ⟨g, cap', cur, hh, hbg, hgb, trivial⟩
              injection hh with h1 h2 h3
              subst h1
              subst h3
              obtain ⟨k, hk⟩ : ∃ k, (c :: l).length = k := ⟨_, rfl⟩
              have hkl : (k : Int) + y ≤ n := by rw [← hk]; exact hly
              have hcs := (OwnB.alloc hB (.cells #[.int .u8 (c0.toNat : Int)] 5)).cells (g := g) rfl
              have hbl : (bytesV (c :: l)).length = k := by rw [bytesV_length, hk]
              have HL := Lib.hid hk
              rw [hk]
              go_wp2_with (at_builtin; refine wpList_append_own _ rfl _ _ 66 rfl w.heap.size 5 i0 (.int .u8 0) 1 1 Tryz.underlying66 hi hz0 hz1 hz2 rfl (by decide) (.slice (some ⟨wr.heap.size, 0, none⟩) 1 1) 1 [.int .u8 (c0.toNat : Int)] rfl hnew ⟨g, 0, none⟩ k cap (bytesV (c :: l)) rfl (by rw [hbl]; simp) hcs (by simp [bytesV, Value.oneCell']) (by unfold maxLen; simp; omega) (by simp; omega) (by simp; omega) ?_; intro v' w1 hown' hgrow _)
              go_roundg (y / 10).toNat
              case measure => have := HK.out; omega
              case rel =>
                have hlk : (c0 :: c :: l).length = 1 + k := by rw [List.length_cons, HL.out, Nat.add_comm]
                refine ⟨y / 10, c0 :: c :: l, rfl, rfl, by omega, by omega, by rw [hlk]; omega, .inr (by simp), (by simp), ?_, ?_⟩
                · unfold OwnB
                  rw [hlk]
                  exact hown'
                · exact Below.turn (Below.turn hb (World.grownBy_alloc _ _ none) (fun r e => nomatch e)) hgrow (fun r e => by simp [Value.ownBlock] at e; omega)
          · have hy' : y = 0 := by omega
            have hl : l ≠ [] := by rcases hor with h | h; exact absurd h hy; exact h
            have hll : 0 < l.length := List.length_pos_iff.2 hl
            have hlb : ((l.length : Int) == 0) = false := by simp; omega
            subst hy'
            have hstr : (convert 66 9 (.slice A0 l.length cap)).run Tryz.prog wr = .ok (.string ⟨l.toArray⟩) wr := strByte hB
            clear hor hl hnl
            go_wp2
            go_ret
            exact ⟨⟨_, rfl, by rw [ByteArray.size_append]; show 8 + l.length ≤ _; omega⟩, hb⟩

end Go.Proofs.YtbhdkkkaeabkhaaGreatDoor
