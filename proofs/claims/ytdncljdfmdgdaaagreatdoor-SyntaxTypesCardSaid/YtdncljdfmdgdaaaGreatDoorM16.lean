/-
  The walks of shapeOf, rightText, further.
-/
/-
 The walks of shapeOf, rightText, further.
 The walks of level and sign.
 The walks of within, part, list.
-/
import Derived.Test.YtdncljdfmdgdaaaGreatDoorM15
namespace Go.Proofs.YtdncljdfmdgdaaaGreatDoor
open Go.RowKit Go.Shelf Go.WideMaps
set_option linter.unusedSimpArgs false
set_option linter.unusedVariables false
set_option maxRecDepth 100000 in
set_option maxHeartbeats 8000000 in
theorem zhzZ (k : Int) (w : World) (hk : 1 ≤ k ∧ k ≤ 21) :
  Calls Tryz.prog 110 #[.int .i64 k] w fun e w' => e = .returned (.tuple #[(Sx.shapeOf k).1.v, .bool (Sx.shapeOf k).2]) ∧ Below w.heap.size w w' := by
 have hcs : k = 1 ∨ k = 2 ∨ k = 3 ∨ k = 4 ∨ k = 5 ∨ k = 6 ∨ k = 7 ∨ k = 8 ∨ k = 9 ∨ k = 10 ∨ k = 11 ∨ k = 12 ∨ k = 13 ∨ k = 14 ∨ k = 15 ∨ k = 16 ∨ k = 17 ∨ k = 18 ∨ k = 19 ∨ k = 20 ∨ k = 21 := by omega
 clear hk
 rcases hcs with rfl | rfl | rfl | rfl | rfl | rfl | rfl | rfl | rfl | rfl | rfl | rfl | rfl | rfl | rfl | rfl | rfl | rfl | rfl | rfl | rfl
 all_goals
  go_enter Tryz.func110, Tryz.ntmps110
  go_wp2
  refine bodyPost_ret (v := .tuple #[_, .bool true]) (by simp [results, Tryz.results110, go_sem]; rfl) rfl ⟨rfl, ?_⟩
  exact (Below.refl _ _).alloc (Nat.le_refl _) _
set_option maxRecDepth 100000 in
set_option maxHeartbeats 8000000 in
theorem ziaZ (k : Int) (w : World) (hk : ¬ (1 ≤ k ∧ k ≤ 21)) :
  Calls Tryz.prog 110 #[.int .i64 k] w fun e w' => e = .returned (.tuple #[(Sx.shapeOf k).1.v, .bool (Sx.shapeOf k).2]) ∧ Below w.heap.size w w' := by
 have hs : Sx.shapeOf k = (⟨0, false, false, false, 0, 0⟩, false) := by
  unfold Sx.shapeOf
  rw [if_neg (by omega), if_neg (by omega), if_neg (by omega), if_neg (by omega), if_neg (by omega), if_neg (by omega), if_neg (by omega), if_neg (by omega), if_neg (by omega), if_neg (by omega), if_neg (by omega), if_neg (by omega)]
 rw [hs]
 have e1 : (k == 1) = false := by rw [beq_eq_false_iff_ne]; omega
 have e2 : (k == 2) = false := by rw [beq_eq_false_iff_ne]; omega
 have e3 : (k == 3) = false := by rw [beq_eq_false_iff_ne]; omega
 have e4 : (k == 4) = false := by rw [beq_eq_false_iff_ne]; omega
 have e5 : (k == 5) = false := by rw [beq_eq_false_iff_ne]; omega
 have e6 : (k == 6) = false := by rw [beq_eq_false_iff_ne]; omega
 have e7 : (k == 7) = false := by rw [beq_eq_false_iff_ne]; omega
 have e8 : (k == 8) = false := by rw [beq_eq_false_iff_ne]; omega
 have e9 : (k == 9) = false := by rw [beq_eq_false_iff_ne]; omega
 have e10 : (k == 10) = false := by rw [beq_eq_false_iff_ne]; omega
 have e11 : (k == 11) = false := by rw [beq_eq_false_iff_ne]; omega
 have e12 : (k == 12) = false := by rw [beq_eq_false_iff_ne]; omega
 have e13 : (k == 13) = false := by rw [beq_eq_false_iff_ne]; omega
 have e14 : (k == 14) = false := by rw [beq_eq_false_iff_ne]; omega
 have e15 : (k == 15) = false := by rw [beq_eq_false_iff_ne]; omega
 have e16 : (k == 16) = false := by rw [beq_eq_false_iff_ne]; omega
 have e17 : (k == 17) = false := by rw [beq_eq_false_iff_ne]; omega
 have e18 : (k == 18) = false := by rw [beq_eq_false_iff_ne]; omega
 have e19 : (k == 19) = false := by rw [beq_eq_false_iff_ne]; omega
 have e20 : (k == 20) = false := by rw [beq_eq_false_iff_ne]; omega
 have e21 : (k == 21) = false := by rw [beq_eq_false_iff_ne]; omega
 clear hs hk
 go_enter Tryz.func110, Tryz.ntmps110
 go_wp2
 refine bodyPost_ret (v := .tuple #[_, .bool false]) (by simp [results, Tryz.results110, go_sem]; rfl) rfl ⟨rfl, ?_⟩
 exact (Below.refl _ _).alloc (Nat.le_refl _) _
theorem zirZ (k : Int) (w : World) :
  Calls Tryz.prog 110 #[.int .i64 k] w fun e w' => e = .returned (.tuple #[(Sx.shapeOf k).1.v, .bool (Sx.shapeOf k).2]) ∧ Below w.heap.size w w' := by
 by_cases hk : 1 ≤ k ∧ k ≤ 21
 ·exact zhzZ k w hk
 ·exact ziaZ k w hk
set_option maxRecDepth 100000 in
set_option maxHeartbeats 4000000 in
theorem zhcZ (h : Sx.Sh) (s : Lx.Bytes) (w : World) (hG : GS w) (hN : NG ≤ w.heap.size) (hs : s.length ≤ 1000000000) :
  Calls Tryz.prog 111 #[h.v, .string ⟨s.toArray⟩] w fun e w' => e = .returned (.bool (Sx.rightText h s)) ∧ Below w.heap.size w w' := by
 obtain ⟨hs0, hn, ht, hnm, hl, hm⟩ := h
 simp only [Sx.Sh.v, Sx.rightText]
 obtain ⟨w2, hw2⟩ : ∃ w2, w.alloc (.cells #[.int .i64 hs0, .bool hn, .bool ht, .bool hnm, .int .i64 hl, .int .i64 hm] 160) = w2 := ⟨_, rfl⟩
 obtain ⟨L, hL⟩ : ∃ L, w.heap.size = L := ⟨_, rfl⟩
 have hbox : w2.heap[L]? = some (.cells #[.int .i64 hs0, .bool hn, .bool ht, .bool hnm, .int .i64 hl, .int .i64 hm] 160 (0, 0)) := by rw [← hw2, ← hL]; exact heap_alloc_new w _
 have hb2 : Below w.heap.size w w2 := by rw [← hw2]; exact zdZ (World.grownBy_alloc w _ none)
 have c0 := cell_of hbox 0
 simp only [List.getElem?_toArray, List.getElem?_cons_zero] at c0
 have hl2 := zaZ hbox
 have hby := zmcZ s w2 (hG.below hb2) (Nat.le_trans hN hb2.size) hs
 have his := fun k => synIs k s w2 (hG.below hb2) (Nat.le_trans hN hb2.size) hs
 have HB2 := Lib.hid hb2
 have HBY := Lib.hid hby
 have HIS := Lib.hid his
 clear hG hbox hb2 hby his
 by_cases h1 : hs0 < 0
 ·rw [if_pos h1]
  go_enter Tryz.func111, Tryz.ntmps111
  go_wp2_with (go_at_call 134; refine HBY.out.mono ?_; rintro e w3 ⟨rfl, h3⟩)
  go_ret
  exact ⟨rfl, HB2.out.trans (h3.mono HB2.out.size)⟩
 ·rw [if_neg h1]
  by_cases h2 : hs0 = 0
  ·rw [if_pos h2]
   subst h2
   cases hse : s.isEmpty with
   | true =>
    have hl : s = [] := List.isEmpty_iff.1 hse
    go_enter Tryz.func111, Tryz.ntmps111
    go_wp2_with fail
    go_ret
    exact ⟨by first | rfl | simp, by first | exact HB2.out | exact hL ▸ HB2.out⟩
   | false =>
    go_enter Tryz.func111, Tryz.ntmps111
    go_wp2_with fail
    go_ret
    exact ⟨rfl, by first | exact HB2.out | exact hL ▸ HB2.out⟩
  ·rw [if_neg h2]
   have e0 : (hs0 == 0) = false := by rw [beq_eq_false_iff_ne]; exact h2
   clear h2
   go_enter Tryz.func111, Tryz.ntmps111
   go_wp2_with (go_at_call 133; refine (HIS.out hs0).mono ?_; rintro e w3 ⟨rfl, h3⟩)
   go_ret
   exact ⟨rfl, HB2.out.trans (h3.mono HB2.out.size)⟩
def Sx.further (k : Int) (i : Nat) : Nat := if Sx.flat k = true ∧ i = 0 then 0 else 1
set_option maxRecDepth 100000 in
set_option maxHeartbeats 4000000 in
theorem zisZ (k : Int) (i : Nat) (w : World) :
  Calls Tryz.prog 112 #[.int .i64 k, .int .i64 (i : Nat)] w fun e w' => e = .returned (.int .i64 (Sx.further k i : Nat)) ∧ w = w' := by
 have hi0 : (0 : Int) ≤ (i : Int) := by omega
 have hfl : Sx.flat k = decide ((9 ≤ k ∧ k ≤ 12) ∨ 15 ≤ k) := rfl
 cases hf : Sx.flat k with
 | true =>
  rw [hf] at hfl
  have hk : (9 ≤ k ∧ k ≤ 12) ∨ 15 ≤ k := by simpa using hfl.symm
  by_cases hz : i = 0
  ·have HF := Lib.hid (show Sx.further k i = 0 by unfold Sx.further; rw [if_pos ⟨hf, hz⟩])
   have b0 : ((i : Int) == 0) = true := by rw [beq_iff_eq]; omega
   clear hfl hf hz
   by_cases h15 : 15 ≤ k
   ·have h12 : decide (k ≤ 12) = false := by rw [decide_eq_false_iff_not]; omega
    have h9 : (9 : Int) ≤ k := by omega
    clear hk
    go_enter Tryz.func112, Tryz.ntmps112
    go_wp2_with fail
    go_ret
    exact ⟨by rw [HF.out]; rfl, rfl⟩
   ·have h9 : (9 : Int) ≤ k := by omega
    have h12 : k ≤ 12 := by omega
    clear hk h15
    go_enter Tryz.func112, Tryz.ntmps112
    go_wp2_with fail
    go_ret
    exact ⟨by rw [HF.out]; rfl, rfl⟩
  ·have HF := Lib.hid (show Sx.further k i = 1 by unfold Sx.further; rw [if_neg (fun h => hz h.2)])
   have b0 : ((i : Int) == 0) = false := by rw [beq_eq_false_iff_ne]; omega
   clear hfl hf hz
   by_cases h15 : 15 ≤ k
   ·have h12 : decide (k ≤ 12) = false := by rw [decide_eq_false_iff_not]; omega
    have h9 : (9 : Int) ≤ k := by omega
    clear hk
    go_enter Tryz.func112, Tryz.ntmps112
    go_wp2_with fail
    go_ret
    exact ⟨by rw [HF.out]; rfl, rfl⟩
   ·have h9 : (9 : Int) ≤ k := by omega
    have h12 : k ≤ 12 := by omega
    clear hk h15
    go_enter Tryz.func112, Tryz.ntmps112
    go_wp2_with fail
    go_ret
    exact ⟨by rw [HF.out]; rfl, rfl⟩
 | false =>
  rw [hf] at hfl
  have hk : ¬ ((9 ≤ k ∧ k ≤ 12) ∨ 15 ≤ k) := by simpa using hfl.symm
  have HF := Lib.hid (show Sx.further k i = 1 by unfold Sx.further; rw [hf, if_neg (fun h => by cases h.1)])
  have h15 : decide ((15 : Int) ≤ k) = false := by rw [decide_eq_false_iff_not]; omega
  clear hfl hf
  by_cases h9 : 9 ≤ k
  ·have h12 : decide (k ≤ 12) = false := by rw [decide_eq_false_iff_not]; omega
   clear hk
   go_enter Tryz.func112, Tryz.ntmps112
   go_wp2_with fail
   go_ret
   exact ⟨by rw [HF.out]; rfl, rfl⟩
  ·have h9' : decide ((9 : Int) ≤ k) = false := by rw [decide_eq_false_iff_not]; omega
   clear hk h9
   go_enter Tryz.func112, Tryz.ntmps112
   go_wp2_with fail
   go_ret
   exact ⟨by rw [HF.out]; rfl, rfl⟩
end Go.Proofs.YtdncljdfmdgdaaaGreatDoor
namespace Go.Proofs.YtdncljdfmdgdaaaGreatDoor
open Go.RowKit Go.Shelf Go.WideMaps
set_option linter.unusedSimpArgs false
set_option linter.unusedVariables false
set_option maxHeartbeats 4000000 in
theorem zejZ (k : Int) (w : World) (h1 : 1 ≤ k) (h2 : k ≤ 21) :
  Calls Tryz.prog 136 #[.int .i64 k] w fun e w' => e = .returned (.int .i64 (Sx.level k : Nat)) ∧ w = w' := by
 have hk : k = 1 ∨ k = 2 ∨ k = 3 ∨ k = 4 ∨ k = 5 ∨ k = 6 ∨ k = 7 ∨ k = 8 ∨ k = 9 ∨ k = 10 ∨ k = 11 ∨ k = 12 ∨ k = 13 ∨ k = 14 ∨ k = 15 ∨ k = 16 ∨ k = 17 ∨ k = 18 ∨ k = 19 ∨ k = 20 ∨ k = 21 := by omega
 clear h1 h2
 rcases hk with rfl | rfl | rfl | rfl | rfl | rfl | rfl | rfl | rfl | rfl | rfl | rfl | rfl | rfl | rfl | rfl | rfl | rfl | rfl | rfl | rfl
 all_goals
  go_enter Tryz.func136, Tryz.ntmps136
  go_wp2
  go_ret
  exact ⟨rfl, rfl⟩
set_option maxRecDepth 100000 in
theorem zjlZ (w : World) : Calls Tryz.prog 137 #[.int .i64 15] w fun e w' => e = .returned (.string ⟨(Sx.sign 15).toArray⟩) ∧ w = w' := by
 have hix : ∀ w, (Instr.index 190 (.agg #[.string ⟨#[]⟩, .string ⟨#[]⟩, .string ⟨#[]⟩, .string ⟨#[]⟩, .string ⟨#[]⟩, .string ⟨#[]⟩, .string ⟨#[]⟩, .string ⟨#[]⟩, .string ⟨#[]⟩, .string ⟨#[]⟩, .string ⟨#[]⟩, .string ⟨#[]⟩, .string ⟨#[]⟩, .string ⟨#[]⟩, .string ⟨#[]⟩, .string ⟨#[42]⟩, .string ⟨#[43]⟩, .string ⟨#[45]⟩, .string ⟨#[61, 61]⟩, .string ⟨#[60]⟩, .string ⟨#[97, 110, 100]⟩, .string ⟨#[111, 114]⟩]) (.int .i64 15)).run Tryz.prog w = .ok (.string ⟨#[42]⟩) w := fun _ => by kernel_rfl
 go_enter Tryz.func137, Tryz.ntmps137
 go_wp2
 go_ret
 exact ⟨rfl, rfl⟩
set_option maxRecDepth 100000 in
theorem zjmZ (w : World) : Calls Tryz.prog 137 #[.int .i64 16] w fun e w' => e = .returned (.string ⟨(Sx.sign 16).toArray⟩) ∧ w = w' := by
 have hix : ∀ w, (Instr.index 190 (.agg #[.string ⟨#[]⟩, .string ⟨#[]⟩, .string ⟨#[]⟩, .string ⟨#[]⟩, .string ⟨#[]⟩, .string ⟨#[]⟩, .string ⟨#[]⟩, .string ⟨#[]⟩, .string ⟨#[]⟩, .string ⟨#[]⟩, .string ⟨#[]⟩, .string ⟨#[]⟩, .string ⟨#[]⟩, .string ⟨#[]⟩, .string ⟨#[]⟩, .string ⟨#[42]⟩, .string ⟨#[43]⟩, .string ⟨#[45]⟩, .string ⟨#[61, 61]⟩, .string ⟨#[60]⟩, .string ⟨#[97, 110, 100]⟩, .string ⟨#[111, 114]⟩]) (.int .i64 16)).run Tryz.prog w = .ok (.string ⟨#[43]⟩) w := fun _ => by kernel_rfl
 go_enter Tryz.func137, Tryz.ntmps137
 go_wp2
 go_ret
 exact ⟨rfl, rfl⟩
set_option maxRecDepth 100000 in
theorem zjnZ (w : World) : Calls Tryz.prog 137 #[.int .i64 17] w fun e w' => e = .returned (.string ⟨(Sx.sign 17).toArray⟩) ∧ w = w' := by
 have hix : ∀ w, (Instr.index 190 (.agg #[.string ⟨#[]⟩, .string ⟨#[]⟩, .string ⟨#[]⟩, .string ⟨#[]⟩, .string ⟨#[]⟩, .string ⟨#[]⟩, .string ⟨#[]⟩, .string ⟨#[]⟩, .string ⟨#[]⟩, .string ⟨#[]⟩, .string ⟨#[]⟩, .string ⟨#[]⟩, .string ⟨#[]⟩, .string ⟨#[]⟩, .string ⟨#[]⟩, .string ⟨#[42]⟩, .string ⟨#[43]⟩, .string ⟨#[45]⟩, .string ⟨#[61, 61]⟩, .string ⟨#[60]⟩, .string ⟨#[97, 110, 100]⟩, .string ⟨#[111, 114]⟩]) (.int .i64 17)).run Tryz.prog w = .ok (.string ⟨#[45]⟩) w := fun _ => by kernel_rfl
 go_enter Tryz.func137, Tryz.ntmps137
 go_wp2
 go_ret
 exact ⟨rfl, rfl⟩
set_option maxRecDepth 100000 in
theorem zjoZ (w : World) : Calls Tryz.prog 137 #[.int .i64 18] w fun e w' => e = .returned (.string ⟨(Sx.sign 18).toArray⟩) ∧ w = w' := by
 have hix : ∀ w, (Instr.index 190 (.agg #[.string ⟨#[]⟩, .string ⟨#[]⟩, .string ⟨#[]⟩, .string ⟨#[]⟩, .string ⟨#[]⟩, .string ⟨#[]⟩, .string ⟨#[]⟩, .string ⟨#[]⟩, .string ⟨#[]⟩, .string ⟨#[]⟩, .string ⟨#[]⟩, .string ⟨#[]⟩, .string ⟨#[]⟩, .string ⟨#[]⟩, .string ⟨#[]⟩, .string ⟨#[42]⟩, .string ⟨#[43]⟩, .string ⟨#[45]⟩, .string ⟨#[61, 61]⟩, .string ⟨#[60]⟩, .string ⟨#[97, 110, 100]⟩, .string ⟨#[111, 114]⟩]) (.int .i64 18)).run Tryz.prog w = .ok (.string ⟨#[61, 61]⟩) w := fun _ => by kernel_rfl
 go_enter Tryz.func137, Tryz.ntmps137
 go_wp2
 go_ret
 exact ⟨rfl, rfl⟩
set_option maxRecDepth 100000 in
theorem zjpZ (w : World) : Calls Tryz.prog 137 #[.int .i64 19] w fun e w' => e = .returned (.string ⟨(Sx.sign 19).toArray⟩) ∧ w = w' := by
 have hix : ∀ w, (Instr.index 190 (.agg #[.string ⟨#[]⟩, .string ⟨#[]⟩, .string ⟨#[]⟩, .string ⟨#[]⟩, .string ⟨#[]⟩, .string ⟨#[]⟩, .string ⟨#[]⟩, .string ⟨#[]⟩, .string ⟨#[]⟩, .string ⟨#[]⟩, .string ⟨#[]⟩, .string ⟨#[]⟩, .string ⟨#[]⟩, .string ⟨#[]⟩, .string ⟨#[]⟩, .string ⟨#[42]⟩, .string ⟨#[43]⟩, .string ⟨#[45]⟩, .string ⟨#[61, 61]⟩, .string ⟨#[60]⟩, .string ⟨#[97, 110, 100]⟩, .string ⟨#[111, 114]⟩]) (.int .i64 19)).run Tryz.prog w = .ok (.string ⟨#[60]⟩) w := fun _ => by kernel_rfl
 go_enter Tryz.func137, Tryz.ntmps137
 go_wp2
 go_ret
 exact ⟨rfl, rfl⟩
set_option maxRecDepth 100000 in
theorem zjqZ (w : World) : Calls Tryz.prog 137 #[.int .i64 20] w fun e w' => e = .returned (.string ⟨(Sx.sign 20).toArray⟩) ∧ w = w' := by
 have hix : ∀ w, (Instr.index 190 (.agg #[.string ⟨#[]⟩, .string ⟨#[]⟩, .string ⟨#[]⟩, .string ⟨#[]⟩, .string ⟨#[]⟩, .string ⟨#[]⟩, .string ⟨#[]⟩, .string ⟨#[]⟩, .string ⟨#[]⟩, .string ⟨#[]⟩, .string ⟨#[]⟩, .string ⟨#[]⟩, .string ⟨#[]⟩, .string ⟨#[]⟩, .string ⟨#[]⟩, .string ⟨#[42]⟩, .string ⟨#[43]⟩, .string ⟨#[45]⟩, .string ⟨#[61, 61]⟩, .string ⟨#[60]⟩, .string ⟨#[97, 110, 100]⟩, .string ⟨#[111, 114]⟩]) (.int .i64 20)).run Tryz.prog w = .ok (.string ⟨#[97, 110, 100]⟩) w := fun _ => by kernel_rfl
 go_enter Tryz.func137, Tryz.ntmps137
 go_wp2
 go_ret
 exact ⟨rfl, rfl⟩
set_option maxRecDepth 100000 in
theorem zjrZ (w : World) : Calls Tryz.prog 137 #[.int .i64 21] w fun e w' => e = .returned (.string ⟨(Sx.sign 21).toArray⟩) ∧ w = w' := by
 have hix : ∀ w, (Instr.index 190 (.agg #[.string ⟨#[]⟩, .string ⟨#[]⟩, .string ⟨#[]⟩, .string ⟨#[]⟩, .string ⟨#[]⟩, .string ⟨#[]⟩, .string ⟨#[]⟩, .string ⟨#[]⟩, .string ⟨#[]⟩, .string ⟨#[]⟩, .string ⟨#[]⟩, .string ⟨#[]⟩, .string ⟨#[]⟩, .string ⟨#[]⟩, .string ⟨#[]⟩, .string ⟨#[42]⟩, .string ⟨#[43]⟩, .string ⟨#[45]⟩, .string ⟨#[61, 61]⟩, .string ⟨#[60]⟩, .string ⟨#[97, 110, 100]⟩, .string ⟨#[111, 114]⟩]) (.int .i64 21)).run Tryz.prog w = .ok (.string ⟨#[111, 114]⟩) w := fun _ => by kernel_rfl
 go_enter Tryz.func137, Tryz.ntmps137
 go_wp2
 go_ret
 exact ⟨rfl, rfl⟩
theorem synSign (k : Int) (w : World) (h1 : 15 ≤ k) (h2 : k ≤ 21) :
  Calls Tryz.prog 137 #[.int .i64 k] w fun e w' => e = .returned (.string ⟨(Sx.sign k).toArray⟩) ∧ w = w' := by
 have hk : k = 15 ∨ k = 16 ∨ k = 17 ∨ k = 18 ∨ k = 19 ∨ k = 20 ∨ k = 21 := by omega
 rcases hk with rfl | rfl | rfl | rfl | rfl | rfl | rfl
 ·exact zjlZ w
 ·exact zjmZ w
 ·exact zjnZ w
 ·exact zjoZ w
 ·exact zjpZ w
 ·exact zjqZ w
 ·exact zjrZ w
end Go.Proofs.YtdncljdfmdgdaaaGreatDoor
namespace Go.Proofs.YtdncljdfmdgdaaaGreatDoor
open Go.RowKit Go.Shelf Go.WideMaps
set_option linter.unusedSimpArgs false
set_option linter.unusedVariables false
def ExprOk (W0 : World) (b : Nat) (x : Sx.Ex) : Prop := ∀ (v : Value) (l : List Lx.Bytes) (w : World), Sx.okX x → IsEx W0 v x → Sx.sizeX x ≤ 1000000 → Wrote W0 b l.length l w → l.length + (Sx.expr SY x).length ≤ 900000000 →
 Calls Tryz.prog 64 #[.pointer (some ⟨b, 0, none⟩), v] w fun e w' => e = .returned (.tuple #[]) ∧ Wrote W0 b (l ++ Sx.expr SY x).length (l ++ Sx.expr SY x) w' ∧ KeepW w w'
def WithinOk (W0 : World) (b : Nat) (x : Sx.Ex) : Prop := ∀ (v : Value) (l : List Lx.Bytes) (w : World), Sx.okX x → IsEx W0 v x → Sx.sizeX x ≤ 1000000 → Wrote W0 b l.length l w → l.length + (Sx.within x).length ≤ 900000000 →
 Calls Tryz.prog 118 #[.pointer (some ⟨b, 0, none⟩), v] w fun e w' => e = .returned (.tuple #[]) ∧ Wrote W0 b (l ++ Sx.within x).length (l ++ Sx.within x) w' ∧ KeepW w w'
def PartOk (W0 : World) (b : Nat) (x : Sx.Ex) (lv : Nat) : Prop := ∀ (v : Value) (l : List Lx.Bytes) (w : World), Sx.okX x → IsEx W0 v x → Sx.sizeX x ≤ 1000000 → Wrote W0 b l.length l w → l.length + (Sx.part lv x).length ≤ 900000000 →
 Calls Tryz.prog 116 #[.pointer (some ⟨b, 0, none⟩), v, .int .i64 (lv : Nat)] w fun e w' => e = .returned (.tuple #[]) ∧ Wrote W0 b (l ++ Sx.part lv x).length (l ++ Sx.part lv x) w' ∧ KeepW w w'
def ListOk (W0 : World) (b : Nat) (xs : List Sx.Ex) : Prop := ∀ (v : Value) (l : List Lx.Bytes) (w : World), (∀ x ∈ xs, Sx.okX x) → ExRow W0 v xs → Sx.sizeXs xs ≤ 1000000 → Wrote W0 b l.length l w → l.length + (Sx.listed xs).length ≤ 900000000 →
 Calls Tryz.prog 117 #[.pointer (some ⟨b, 0, none⟩), v] w fun e w' => e = .returned (.tuple #[]) ∧ Wrote W0 b (l ++ Sx.listed xs).length (l ++ Sx.listed xs) w' ∧ KeepW w w'
set_option maxRecDepth 100000 in
set_option maxHeartbeats 8000000 in
theorem zfuZ {W0 : World} {b : Nat} {x : Sx.Ex} (ih : ExprOk W0 b x) : WithinOk W0 b x := by
 intro v l w hr ht hz h hc
 have hlen : (Sx.within x).length = (Sx.expr SY x).length + 2 := by simp [Sx.within]
 obtain ⟨m, hm⟩ : ∃ m, Sx.expr SY x = m := ⟨_, rfl⟩
 have hwi : Sx.within x = [[40]] ++ m ++ [[41]] := by unfold Sx.within; rw [hm]
 rw [hm] at hlen
 have hb1 : l.length + 1 ≤ 1000000000 := by omega
 have hb2 : (l ++ [[40]]).length + m.length ≤ 900000000 := by simp; omega
 have hb3 : (l ++ [[40]] ++ m).length + 1 ≤ 1000000000 := by simp; omega
 have hE : ∀ w, Wrote W0 b (l ++ [[40]]).length (l ++ [[40]]) w → Calls Tryz.prog 64 #[.pointer (some ⟨b, 0, none⟩), v] w fun e w' => e = .returned (.tuple #[]) ∧ Wrote W0 b (l ++ [[40]] ++ m).length (l ++ [[40]] ++ m) w' ∧ KeepW w w' := fun w hw => by
  have := ih v (l ++ [[40]]) w hr ht hz hw (by rw [hm]; exact hb2)
  rwa [hm] at this
 obtain ⟨At, ct, An, cn, Ap, cp, rfl, -⟩ := ht.agg
 obtain ⟨L, hL⟩ : ∃ L, w.heap.size = L := ⟨_, rfl⟩
 obtain ⟨w2, hw2⟩ : ∃ w2, w.alloc (.cells #[.int .i64 x.pos, .int .i64 x.kind, .int .i64 x.n, .string ⟨x.s.toArray⟩, .slice At x.t.length ct, .slice An x.names.length cn, .slice Ap x.parts.length cp] 39) = w2 := ⟨_, rfl⟩
 have hlv := Live.first h #[.int .i64 x.pos, .int .i64 x.kind, .int .i64 x.n, .string ⟨x.s.toArray⟩, .slice At x.t.length ct, .slice An x.names.length cn, .slice Ap x.parts.length cp] 39 hw2
 rw [hL] at hlv
 have H2 := Lib.hid hlv
 clear hlv h
 have HE := Lib.hid hE
 have HWI := Lib.hid hwi
 clear hE hwi ih hr hm hc hlen ht hz
 go_enter Tryz.func118, Tryz.ntmps118
 obtain ⟨x0, x1, x2, x3, x4, x5, x6⟩ := zbZ H2.out.b1
 obtain ⟨hl1, hl2, hbl⟩ := H2.out.lt
 go_upto_region 2 with (go_at_call 100; refine (H2.out.lput1 [40] ⟨by simp, by simp⟩ hb1).mono ?_; rintro e w3 ⟨rfl, hW3, hk3⟩)
 have H3 := Lib.hid (H2.out.go oEx oEx hW3 hk3)
 clear hW3 hk3
 clear x0 x1 x2 x3 x4 x5 x6 hl1 hl2 hbl
 obtain ⟨x0, x1, x2, x3, x4, x5, x6⟩ := zbZ H3.out.b1
 obtain ⟨hl1, hl2, hbl⟩ := H3.out.lt
 go_upto_region 3 with (go_at_call 64; refine (HE.out w3 H3.out.wr).mono ?_; rintro e w4 ⟨rfl, hW4, hk4⟩)
 have H4 := Lib.hid (H3.out.go oEx oEx hW4 hk4)
 clear hW4 hk4
 clear x0 x1 x2 x3 x4 x5 x6 hl1 hl2 hbl
 obtain ⟨x0, x1, x2, x3, x4, x5, x6⟩ := zbZ H4.out.b1
 obtain ⟨hl1, hl2, hbl⟩ := H4.out.lt
 go_wp2_with (go_at_call 100; refine (H4.out.lput1 [41] ⟨by simp, by simp⟩ hb3).mono ?_; rintro e w5 ⟨rfl, hW5, hk5⟩)
 have H5 := Lib.hid (H4.out.go oEx oEx hW5 hk5)
 clear hW5 hk5
 clear x0 x1 x2 x3 x4 x5 x6 hl1 hl2 hbl
 go_end0
 refine ⟨rfl, ?_, H5.out.kp⟩
 rw [HWI.out]
 simpa [List.append_assoc] using H5.out.wr
set_option maxRecDepth 100000 in
set_option maxHeartbeats 8000000 in
theorem synPart {W0 : World} {b : Nat} {x : Sx.Ex} (ih : ExprOk W0 b x) (lv : Nat) (hlv : lv ≤ 8) (hk1 : 1 ≤ x.kind) (hk2 : x.kind ≤ 21) : PartOk W0 b x lv := by
 intro v l w hr ht hz h hc
 have hwi := zfuZ ih v l
 have hex := ih v l
 have hk := fun w => zejZ x.kind w hk1 hk2
 obtain ⟨k, hke⟩ : ∃ k, Sx.level x.kind = k := ⟨_, rfl⟩
 rw [hke] at hk
 have hkl : k ≤ 8 := by rw [← hke]; unfold Sx.level; (repeat' split) <;> omega
 have hk0 : (0 : Int) ≤ (k : Int) := by omega
 have hl0 : (0 : Int) ≤ (lv : Int) := by omega
 have hPA := Lib.hid (show Sx.part lv x = if k < lv then Sx.within x else Sx.expr SY x by unfold Sx.part; rw [hke])
 have hHT := Lib.hid ht
 have HZ := Lib.hid hz
 have HC := Lib.hid hc
 obtain ⟨At, ct, An, cn, Ap, cp, rfl, -⟩ := ht.agg
 obtain ⟨L, hL⟩ : ∃ L, w.heap.size = L := ⟨_, rfl⟩
 obtain ⟨w2, hw2⟩ : ∃ w2, w.alloc (.cells #[.int .i64 x.pos, .int .i64 x.kind, .int .i64 x.n, .string ⟨x.s.toArray⟩, .slice At x.t.length ct, .slice An x.names.length cn, .slice Ap x.parts.length cp] 39) = w2 := ⟨_, rfl⟩
 have hlv := Live.first h #[.int .i64 x.pos, .int .i64 x.kind, .int .i64 x.n, .string ⟨x.s.toArray⟩, .slice At x.t.length ct, .slice An x.names.length cn, .slice Ap x.parts.length cp] 39 hw2
 rw [hL] at hlv
 have H2 := Lib.hid hlv
 clear hlv h
 have HWI := Lib.hid hwi
 have HEX := Lib.hid hex
 have HR := Lib.hid hr
 have HKE := Lib.hid hke
 have HK := Lib.hid hk
 clear hwi hex ih hr hc ht hz hke hk hk1 hk2
 obtain ⟨x0, x1, x2, x3, x4, x5, x6⟩ := zbZ H2.out.b1
 obtain ⟨hl1, hl2, hbl⟩ := H2.out.lt
 by_cases hlt : k < lv
 ·have hi : (k : Int) < (lv : Int) := by omega
  have hP : Sx.part lv x = Sx.within x := by rw [hPA.out, if_pos hlt]
  have HCC := Lib.hid (show l.length + (Sx.within x).length ≤ 900000000 by have := HC.out; rwa [hP] at this)
  have HP := Lib.hid hP
  clear hlt hP
  go_enter Tryz.func116, Tryz.ntmps116
  go_wp2_with (first
   | (go_at_call 136; refine (HK.out w2).mono ?_; rintro e w' ⟨rfl, rfl⟩)
   | (go_at_call 118; refine (HWI.out w2 HR.out hHT.out HZ.out H2.out.wr HCC.out).mono ?_; rintro e w3 ⟨rfl, hW3, hk3⟩))
  go_end0
  rw [HP.out]
  exact ⟨rfl, hW3, H2.out.kp.trans hk3⟩
 ·have hi : ¬ (k : Int) < (lv : Int) := by omega
  have hi2 : (lv : Int) ≤ (k : Int) := by omega
  have hP : Sx.part lv x = Sx.expr SY x := by rw [hPA.out, if_neg hlt]
  have HCC := Lib.hid (show l.length + (Sx.expr SY x).length ≤ 900000000 by have := HC.out; rwa [hP] at this)
  have HP := Lib.hid hP
  clear hlt hP
  go_enter Tryz.func116, Tryz.ntmps116
  go_wp2_with (first
   | (go_at_call 136; refine (HK.out w2).mono ?_; rintro e w' ⟨rfl, rfl⟩)
   | (go_at_call 64; refine (HEX.out w2 HR.out hHT.out HZ.out H2.out.wr HCC.out).mono ?_; rintro e w3 ⟨rfl, hW3, hk3⟩))
  go_end0
  rw [HP.out]
  exact ⟨rfl, hW3, H2.out.kp.trans hk3⟩
end Go.Proofs.YtdncljdfmdgdaaaGreatDoor
