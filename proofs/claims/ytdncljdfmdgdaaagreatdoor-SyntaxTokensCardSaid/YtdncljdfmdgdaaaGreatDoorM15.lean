/-
  The walks of level and sign.
  The walks of within, part, list.
  The walk of list.
-/
import Derived.Test.YtdncljdfmdgdaaaGreatDoorM13
namespace Go.Proofs.YtdncljdfmdgdaaaGreatDoor
open Go.RowKit Go.Shelf Go.WideMaps
set_option linter.unusedSimpArgs false
set_option linter.unusedVariables false

set_option maxHeartbeats 4000000 in
theorem synLevel (k : Int) (w : World) (h1 : 1 ≤ k) (h2 : k ≤ 21) :
    Calls Tryz.prog 136 #[.int .i64 k] w fun e w' => e = .returned (.int .i64 (Sx.level k : Nat)) ∧ w = w' := by
  have hk : k = 1 ∨ k = 2 ∨ k = 3 ∨ k = 4 ∨ k = 5 ∨ k = 6 ∨ k = 7 ∨ k = 8 ∨ k = 9 ∨ k = 10 ∨ k = 11 ∨ k = 12 ∨ k = 13 ∨ k = 14 ∨ k = 15 ∨ k = 16 ∨ k = 17 ∨ k = 18 ∨ k = 19 ∨ k = 20 ∨ k = 21 := by omega
  clear h1 h2
  rcases hk with rfl | rfl | rfl | rfl | rfl | rfl | rfl | rfl | rfl | rfl | rfl | rfl | rfl | rfl | rfl | rfl | rfl | rfl | rfl | rfl | rfl
  all_goals
    go_enter Tryz.func136, Tryz.ntmps136
    go_wp2
    go_ret
    exact ⟨rfl, rfl⟩

set_option maxRecDepth 100000 in
theorem synSign15 (w : World) : Calls Tryz.prog 137 #[.int .i64 15] w fun e w' => e = .returned (.string ⟨(Sx.sign 15).toArray⟩) ∧ w = w' := by
  have hix : ∀ w, (Instr.index 190 (.agg #[.string ⟨#[]⟩, .string ⟨#[]⟩, .string ⟨#[]⟩, .string ⟨#[]⟩, .string ⟨#[]⟩, .string ⟨#[]⟩, .string ⟨#[]⟩, .string ⟨#[]⟩, .string ⟨#[]⟩, .string ⟨#[]⟩, .string ⟨#[]⟩, .string ⟨#[]⟩, .string ⟨#[]⟩, .string ⟨#[]⟩, .string ⟨#[]⟩, .string ⟨#[42]⟩, .string ⟨#[43]⟩, .string ⟨#[45]⟩, .string ⟨#[61, 61]⟩, .string ⟨#[60]⟩, .string ⟨#[97, 110, 100]⟩, .string ⟨#[111, 114]⟩]) (.int .i64 15)).run Tryz.prog w = .ok (.string ⟨#[42]⟩) w := fun _ => by kernel_rfl
  go_enter Tryz.func137, Tryz.ntmps137
  go_wp2
  go_ret
  exact ⟨rfl, rfl⟩
set_option maxRecDepth 100000 in
theorem synSign16 (w : World) : Calls Tryz.prog 137 #[.int .i64 16] w fun e w' => e = .returned (.string ⟨(Sx.sign 16).toArray⟩) ∧ w = w' := by
  have hix : ∀ w, (Instr.index 190 (.agg #[.string ⟨#[]⟩, .string ⟨#[]⟩, .string ⟨#[]⟩, .string ⟨#[]⟩, .string ⟨#[]⟩, .string ⟨#[]⟩, .string ⟨#[]⟩, .string ⟨#[]⟩, .string ⟨#[]⟩, .string ⟨#[]⟩, .string ⟨#[]⟩, .string ⟨#[]⟩, .string ⟨#[]⟩, .string ⟨#[]⟩, .string ⟨#[]⟩, .string ⟨#[42]⟩, .string ⟨#[43]⟩, .string ⟨#[45]⟩, .string ⟨#[61, 61]⟩, .string ⟨#[60]⟩, .string ⟨#[97, 110, 100]⟩, .string ⟨#[111, 114]⟩]) (.int .i64 16)).run Tryz.prog w = .ok (.string ⟨#[43]⟩) w := fun _ => by kernel_rfl
  go_enter Tryz.func137, Tryz.ntmps137
  go_wp2
  go_ret
  exact ⟨rfl, rfl⟩
set_option maxRecDepth 100000 in
theorem synSign17 (w : World) : Calls Tryz.prog 137 #[.int .i64 17] w fun e w' => e = .returned (.string ⟨(Sx.sign 17).toArray⟩) ∧ w = w' := by
  have hix : ∀ w, (Instr.index 190 (.agg #[.string ⟨#[]⟩, .string ⟨#[]⟩, .string ⟨#[]⟩, .string ⟨#[]⟩, .string ⟨#[]⟩, .string ⟨#[]⟩, .string ⟨#[]⟩, .string ⟨#[]⟩, .string ⟨#[]⟩, .string ⟨#[]⟩, .string ⟨#[]⟩, .string ⟨#[]⟩, .string ⟨#[]⟩, .string ⟨#[]⟩, .string ⟨#[]⟩, .string ⟨#[42]⟩, .string ⟨#[43]⟩, .string ⟨#[45]⟩, .string ⟨#[61, 61]⟩, .string ⟨#[60]⟩, .string ⟨#[97, 110, 100]⟩, .string ⟨#[111, 114]⟩]) (.int .i64 17)).run Tryz.prog w = .ok (.string ⟨#[45]⟩) w := fun _ => by kernel_rfl
  go_enter Tryz.func137, Tryz.ntmps137
  go_wp2
  go_ret
  exact ⟨rfl, rfl⟩
set_option maxRecDepth 100000 in
theorem synSign18 (w : World) : Calls Tryz.prog 137 #[.int .i64 18] w fun e w' => e = .returned (.string ⟨(Sx.sign 18).toArray⟩) ∧ w = w' := by
  have hix : ∀ w, (Instr.index 190 (.agg #[.string ⟨#[]⟩, .string ⟨#[]⟩, .string ⟨#[]⟩, .string ⟨#[]⟩, .string ⟨#[]⟩, .string ⟨#[]⟩, .string ⟨#[]⟩, .string ⟨#[]⟩, .string ⟨#[]⟩, .string ⟨#[]⟩, .string ⟨#[]⟩, .string ⟨#[]⟩, .string ⟨#[]⟩, .string ⟨#[]⟩, .string ⟨#[]⟩, .string ⟨#[42]⟩, .string ⟨#[43]⟩, .string ⟨#[45]⟩, .string ⟨#[61, 61]⟩, .string ⟨#[60]⟩, .string ⟨#[97, 110, 100]⟩, .string ⟨#[111, 114]⟩]) (.int .i64 18)).run Tryz.prog w = .ok (.string ⟨#[61, 61]⟩) w := fun _ => by kernel_rfl
  go_enter Tryz.func137, Tryz.ntmps137
  go_wp2
  go_ret
  exact ⟨rfl, rfl⟩
set_option maxRecDepth 100000 in
theorem synSign19 (w : World) : Calls Tryz.prog 137 #[.int .i64 19] w fun e w' => e = .returned (.string ⟨(Sx.sign 19).toArray⟩) ∧ w = w' := by
  have hix : ∀ w, (Instr.index 190 (.agg #[.string ⟨#[]⟩, .string ⟨#[]⟩, .string ⟨#[]⟩, .string ⟨#[]⟩, .string ⟨#[]⟩, .string ⟨#[]⟩, .string ⟨#[]⟩, .string ⟨#[]⟩, .string ⟨#[]⟩, .string ⟨#[]⟩, .string ⟨#[]⟩, .string ⟨#[]⟩, .string ⟨#[]⟩, .string ⟨#[]⟩, .string ⟨#[]⟩, .string ⟨#[42]⟩, .string ⟨#[43]⟩, .string ⟨#[45]⟩, .string ⟨#[61, 61]⟩, .string ⟨#[60]⟩, .string ⟨#[97, 110, 100]⟩, .string ⟨#[111, 114]⟩]) (.int .i64 19)).run Tryz.prog w = .ok (.string ⟨#[60]⟩) w := fun _ => by kernel_rfl
  go_enter Tryz.func137, Tryz.ntmps137
  go_wp2
  go_ret
  exact ⟨rfl, rfl⟩
set_option maxRecDepth 100000 in
theorem synSign20 (w : World) : Calls Tryz.prog 137 #[.int .i64 20] w fun e w' => e = .returned (.string ⟨(Sx.sign 20).toArray⟩) ∧ w = w' := by
  have hix : ∀ w, (Instr.index 190 (.agg #[.string ⟨#[]⟩, .string ⟨#[]⟩, .string ⟨#[]⟩, .string ⟨#[]⟩, .string ⟨#[]⟩, .string ⟨#[]⟩, .string ⟨#[]⟩, .string ⟨#[]⟩, .string ⟨#[]⟩, .string ⟨#[]⟩, .string ⟨#[]⟩, .string ⟨#[]⟩, .string ⟨#[]⟩, .string ⟨#[]⟩, .string ⟨#[]⟩, .string ⟨#[42]⟩, .string ⟨#[43]⟩, .string ⟨#[45]⟩, .string ⟨#[61, 61]⟩, .string ⟨#[60]⟩, .string ⟨#[97, 110, 100]⟩, .string ⟨#[111, 114]⟩]) (.int .i64 20)).run Tryz.prog w = .ok (.string ⟨#[97, 110, 100]⟩) w := fun _ => by kernel_rfl
  go_enter Tryz.func137, Tryz.ntmps137
  go_wp2
  go_ret
  exact ⟨rfl, rfl⟩
set_option maxRecDepth 100000 in
theorem synSign21 (w : World) : Calls Tryz.prog 137 #[.int .i64 21] w fun e w' => e = .returned (.string ⟨(Sx.sign 21).toArray⟩) ∧ w = w' := by
  have hix : ∀ w, (Instr.index 190 (.agg #[.string ⟨#[]⟩, .string ⟨#[]⟩, .string ⟨#[]⟩, .string ⟨#[]⟩, .string ⟨#[]⟩, .string ⟨#[]⟩, .string ⟨#[]⟩, .string ⟨#[]⟩, .string ⟨#[]⟩, .string ⟨#[]⟩, .string ⟨#[]⟩, .string ⟨#[]⟩, .string ⟨#[]⟩, .string ⟨#[]⟩, .string ⟨#[]⟩, .string ⟨#[42]⟩, .string ⟨#[43]⟩, .string ⟨#[45]⟩, .string ⟨#[61, 61]⟩, .string ⟨#[60]⟩, .string ⟨#[97, 110, 100]⟩, .string ⟨#[111, 114]⟩]) (.int .i64 21)).run Tryz.prog w = .ok (.string ⟨#[111, 114]⟩) w := fun _ => by kernel_rfl
  go_enter Tryz.func137, Tryz.ntmps137
  go_wp2
  go_ret
  exact ⟨rfl, rfl⟩
theorem synSign (k : Int) (w : World) (h1 : 15 ≤ k) (h2 : k ≤ 21) :
    Calls Tryz.prog 137 #[.int .i64 k] w fun e w' => e = .returned (.string ⟨(Sx.sign k).toArray⟩) ∧ w = w' := by
  have hk : k = 15 ∨ k = 16 ∨ k = 17 ∨ k = 18 ∨ k = 19 ∨ k = 20 ∨ k = 21 := by omega
  rcases hk with rfl | rfl | rfl | rfl | rfl | rfl | rfl
  · exact synSign15 w
  · exact synSign16 w
  · exact synSign17 w
  · exact synSign18 w
  · exact synSign19 w
  · exact synSign20 w
  · exact synSign21 w

end Go.Proofs.YtdncljdfmdgdaaaGreatDoor

namespace Go.Proofs.YtdncljdfmdgdaaaGreatDoor
open Go.RowKit Go.Shelf Go.WideMaps
set_option linter.unusedSimpArgs false
set_option linter.unusedVariables false

def ExprOk (W0 : World) (b : Nat) (x : Sx.Ex) : Prop := ∀ (v : Value) (l : List Lx.Bytes) (w : World), Sx.okX x → IsEx W0 v x → Sx.sizeX x ≤ 1000000 → Wrote W0 b l.length l w → l.length + (Sx.expr SY x).length ≤ 900000000 →
  Calls Tryz.prog 64 #[.pointer (some ⟨b, 0, none⟩), v] w fun e w' => e = .returned (.tuple #[]) ∧ Wrote W0 b (l ++ Sx.expr SY x).length (l ++ Sx.expr SY x) w' ∧ KeepW w w'
def WithinOk (W0 : World) (b : Nat) (x : Sx.Ex) : Prop := ∀ (v : Value) (l : List Lx.Bytes) (w : World), Sx.okX x → IsEx W0 v x → Sx.sizeX x ≤ 1000000 → Wrote W0 b l.length l w → l.length + (Sx.within x).length ≤ 900000000 →
  Calls Tryz.prog 118 #[.pointer (some ⟨b, 0, none⟩), v] w fun e w' => e = .returned (.tuple #[]) ∧ Wrote W0 b (l ++ Sx.within x).length (l ++ Sx.within x) w' ∧ KeepW w w'
def PartOk (W0 : World) (b : Nat) (x : Sx.Ex) (lv : Nat) : Prop := ∀ (v : Value) (l : List Lx.Bytes) (w : World), Sx.okX x → IsEx W0 v x → Sx.sizeX x ≤ 1000000 → Wrote W0 b l.length l w → l.length + (Sx.part lv x).length ≤ 900000000 →
  Calls Tryz.prog 116 #[.pointer (some ⟨b, 0, none⟩), v, .int .i64 (lv : Nat)] w fun e w' => e = .returned (.tuple #[]) ∧ Wrote W0 b (l ++ Sx.part lv x).length (l ++ Sx.part lv x) w' ∧ KeepW w w'
def ListOk (W0 : World) (b : Nat) (xs : List Sx.Ex) : Prop := ∀ (v : Value) (l : List Lx.Bytes) (w : World), (∀ x ∈ xs, Sx.okX x) → ExRow W0 v xs → Sx.sizeXs xs ≤ 1000000 → Wrote W0 b l.length l w → l.length + (Sx.listed xs).length ≤ 900000000 →
  Calls Tryz.prog 117 #[.pointer (some ⟨b, 0, none⟩), v] w fun e w' => e = .returned (.tuple #[]) ∧ Wrote W0 b (l ++ Sx.listed xs).length (l ++ Sx.listed xs) w' ∧ KeepW w w'

set_option maxRecDepth 100000 in
set_option maxHeartbeats 8000000 in
theorem synWithin {W0 : World} {b : Nat} {x : Sx.Ex} (ih : ExprOk W0 b x) : WithinOk W0 b x := by
  intro v l w hr ht hz h hc
  have hlen : (Sx.within x).length = (Sx.expr SY x).length + 2 := by simp [Sx.within]
  obtain ⟨m, hm⟩ : ∃ m, Sx.expr SY x = m := ⟨_, rfl⟩
  have hwi : Sx.within x = [[40]] ++ m ++ [[41]] := by unfold Sx.within; rw [hm]
  rw [hm] at hlen
  have hb1 : l.length + 1 ≤ 1000000000 := by omega
  have hb2 : (l ++ [[40]]).length + m.length ≤ 900000000 := by simp; omega
  have hb3 : (l ++ [[40]] ++ m).length + 1 ≤ 1000000000 := by simp; omega
  have hE : ∀ w, Wrote W0 b (l ++ [[40]]).length (l ++ [[40]]) w → Calls Tryz.prog 64 #[.pointer (some ⟨b, 0, none⟩), v] w fun e w' => e = .returned (.tuple #[]) ∧ Wrote W0 b (l ++ [[40]] ++ m).length (l ++ [[40]] ++ m) w' ∧ KeepW w w' := fun w hw => by
    have := ih v (l ++ [[40]]) w hr ht hz hw (by rw [hm]; exact hb2)
    rwa [hm] at this
  obtain ⟨At, ct, An, cn, Ap, cp, rfl, -⟩ := ht.agg
  obtain ⟨L, hL⟩ : ∃ L, w.heap.size = L := ⟨_, rfl⟩
  obtain ⟨w2, hw2⟩ : ∃ w2, w.alloc (.cells #[.int .i64 x.pos, .int .i64 x.kind, .int .i64 x.n, .string ⟨x.s.toArray⟩, .slice At x.t.length ct, .slice An x.names.length cn, .slice Ap x.parts.length cp] 39) = w2 := ⟨_, rfl⟩
  have hlv := Live.first h #[.int .i64 x.pos, .int .i64 x.kind, .int .i64 x.n, .string ⟨x.s.toArray⟩, .slice At x.t.length ct, .slice An x.names.length cn, .slice Ap x.parts.length cp] 39 hw2
  rw [hL] at hlv
  have H2 := Lib.hid hlv
  clear hlv h
  have HE := Lib.hid hE
  have HWI := Lib.hid hwi
  clear hE hwi ih hr hm hc hlen ht hz
  go_enter Tryz.func118, Tryz.ntmps118
  obtain ⟨x0, x1, x2, x3, x4, x5, x6⟩ := seven_cells H2.out.b1
  obtain ⟨hl1, hl2, hbl⟩ := H2.out.lt
  go_upto_region 2 with (go_at_call 100; refine (H2.out.lput1 [40] ⟨by simp, by simp⟩ hb1).mono ?_; rintro e w3 ⟨rfl, hW3, hk3⟩)
  have H3 := Lib.hid (H2.out.go oEx oEx hW3 hk3)
  clear hW3 hk3
  clear x0 x1 x2 x3 x4 x5 x6 hl1 hl2 hbl
  obtain ⟨x0, x1, x2, x3, x4, x5, x6⟩ := seven_cells H3.out.b1
  obtain ⟨hl1, hl2, hbl⟩ := H3.out.lt
  go_upto_region 3 with (go_at_call 64; refine (HE.out w3 H3.out.wr).mono ?_; rintro e w4 ⟨rfl, hW4, hk4⟩)
  have H4 := Lib.hid (H3.out.go oEx oEx hW4 hk4)
  clear hW4 hk4
  clear x0 x1 x2 x3 x4 x5 x6 hl1 hl2 hbl
  obtain ⟨x0, x1, x2, x3, x4, x5, x6⟩ := seven_cells H4.out.b1
  obtain ⟨hl1, hl2, hbl⟩ := H4.out.lt
  go_wp2_with (go_at_call 100; refine (H4.out.lput1 [41] ⟨by simp, by simp⟩ hb3).mono ?_; rintro e w5 ⟨rfl, hW5, hk5⟩)
  have H5 := Lib.hid (H4.out.go oEx oEx hW5 hk5)
  clear hW5 hk5
  clear x0 x1 x2 x3 x4 x5 x6 hl1 hl2 hbl
  go_end0
  refine ⟨rfl, ?_, H5.out.kp⟩
  rw [HWI.out]
  simpa [List.append_assoc] using H5.out.wr

set_option maxRecDepth 100000 in
set_option maxHeartbeats 8000000 in
theorem synPart {W0 : World} {b : Nat} {x : Sx.Ex} (ih : ExprOk W0 b x) (lv : Nat) (hlv : lv ≤ 8) (hk1 : 1 ≤ x.kind) (hk2 : x.kind ≤ 21) : PartOk W0 b x lv := by
  intro v l w hr ht hz h hc
  have hwi := synWithin ih v l
  have hex := ih v l
  have hk := fun w => synLevel x.kind w hk1 hk2
  obtain ⟨k, hke⟩ : ∃ k, Sx.level x.kind = k := ⟨_, rfl⟩
  rw [hke] at hk
  have hkl : k ≤ 8 := by rw [← hke]; unfold Sx.level; (repeat' split) <;> omega
  have hk0 : (0 : Int) ≤ (k : Int) := by omega
  have hl0 : (0 : Int) ≤ (lv : Int) := by omega
  have hPA := Lib.hid (show Sx.part lv x = if k < lv then Sx.within x else Sx.expr SY x by unfold Sx.part; rw [hke])
  have hHT := Lib.hid ht
  have HZ := Lib.hid hz
  have HC := Lib.hid hc
  obtain ⟨At, ct, An, cn, Ap, cp, rfl, -⟩ := ht.agg
  obtain ⟨L, hL⟩ : ∃ L, w.heap.size = L := ⟨_, rfl⟩
  obtain ⟨w2, hw2⟩ : ∃ w2, w.alloc (.cells #[.int .i64 x.pos, .int .i64 x.kind, .int .i64 x.n, .string ⟨x.s.toArray⟩, .slice At x.t.length ct, .slice An x.names.length cn, .slice Ap x.parts.length cp] 39) = w2 := ⟨_, rfl⟩
  have hlv := Live.first h #[.int .i64 x.pos, .int .i64 x.kind, .int .i64 x.n, .string ⟨x.s.toArray⟩, .slice At x.t.length ct, .slice An x.names.length cn, .slice Ap x.parts.length cp] 39 hw2
  rw [hL] at hlv
  have H2 := Lib.hid hlv
  clear hlv h
  have HWI := Lib.hid hwi
  have HEX := Lib.hid hex
  have HR := Lib.hid hr
  have HKE := Lib.hid hke
  have HK := Lib.hid hk
  clear hwi hex ih hr hc ht hz hke hk hk1 hk2
  obtain ⟨x0, x1, x2, x3, x4, x5, x6⟩ := seven_cells H2.out.b1
  obtain ⟨hl1, hl2, hbl⟩ := H2.out.lt
  by_cases hlt : k < lv
  · have hi : (k : Int) < (lv : Int) := by omega
    have hP : Sx.part lv x = Sx.within x := by rw [hPA.out, if_pos hlt]
    have HCC := Lib.hid (show l.length + (Sx.within x).length ≤ 900000000 by have := HC.out; rwa [hP] at this)
    have HP := Lib.hid hP
    clear hlt hP
    go_enter Tryz.func116, Tryz.ntmps116
    go_wp2_with (first
      | (go_at_call 136; refine (HK.out w2).mono ?_; rintro e w' ⟨rfl, rfl⟩)
      | (go_at_call 118; refine (HWI.out w2 HR.out hHT.out HZ.out H2.out.wr HCC.out).mono ?_; rintro e w3 ⟨rfl, hW3, hk3⟩))
    go_end0
    rw [HP.out]
    exact ⟨rfl, hW3, H2.out.kp.trans hk3⟩
  · have hi : ¬ (k : Int) < (lv : Int) := by omega
    have hi2 : (lv : Int) ≤ (k : Int) := by omega
    have hP : Sx.part lv x = Sx.expr SY x := by rw [hPA.out, if_neg hlt]
    have HCC := Lib.hid (show l.length + (Sx.expr SY x).length ≤ 900000000 by have := HC.out; rwa [hP] at this)
    have HP := Lib.hid hP
    clear hlt hP
    go_enter Tryz.func116, Tryz.ntmps116
    go_wp2_with (first
      | (go_at_call 136; refine (HK.out w2).mono ?_; rintro e w' ⟨rfl, rfl⟩)
      | (go_at_call 64; refine (HEX.out w2 HR.out hHT.out HZ.out H2.out.wr HCC.out).mono ?_; rintro e w3 ⟨rfl, hW3, hk3⟩))
    go_end0
    rw [HP.out]
    exact ⟨rfl, hW3, H2.out.kp.trans hk3⟩

end Go.Proofs.YtdncljdfmdgdaaaGreatDoor

namespace Go.Proofs.YtdncljdfmdgdaaaGreatDoor
open Go.RowKit Go.Shelf Go.WideMaps
set_option linter.unusedSimpArgs false
set_option linter.unusedVariables false

theorem Sx.list_append (S : Sx.Says) : ∀ (l m : List Sx.Ex) (i : Nat), Sx.list S i (l ++ m) = Sx.list S i l ++ Sx.list S (i + l.length) m
  | [], m, i => by simp [Sx.list]
  | x :: l, m, i => by
    rw [List.cons_append, Sx.list, Sx.list, Sx.list_append S l m (i + 1), List.length_cons, show i + 1 + l.length = i + (l.length + 1) by omega]
    simp [List.append_assoc]
theorem Sx.list_take {l : List Sx.Ex} {m : Nat} (h : m < l.length) : Sx.list SY 0 (l.take (m + 1)) = Sx.list SY 0 (l.take m) ++ (if 0 < m then [[44]] else []) ++ Sx.expr SY l[m] := by
  rw [List.take_succ_eq_append_getElem h, Sx.list_append, Nat.zero_add, List.length_take, Nat.min_eq_left (by omega)]
  simp [Sx.list, List.append_assoc]
theorem Sx.list_le (l : List Sx.Ex) (m : Nat) : (Sx.list SY 0 (l.take m)).length ≤ (Sx.list SY 0 l).length := by
  conv => rhs; rw [← List.take_append_drop m l, Sx.list_append, List.length_append]
  omega

set_option maxRecDepth 100000 in
set_option maxHeartbeats 8000000 in
theorem synList {W0 : World} {b : Nat} {xs : List Sx.Ex} (ih : ∀ x ∈ xs, ExprOk W0 b x) : ListOk W0 b xs := by
  intro v l w hr ht hz h hc
  have hlen : (Sx.listed xs).length = (Sx.list SY 0 xs).length + 2 := by simp [Sx.listed]
  have hxl := Sx.length_sizeXs xs
  obtain ⟨A, c, rfl, hcap, hrow⟩ := ht
  have ht : ExRow W0 (.slice A xs.length c) xs := ⟨A, c, rfl, hcap, hrow⟩
  obtain ⟨k, hk⟩ : ∃ k, xs.length = k := ⟨_, rfl⟩
  rw [hk] at ht ⊢
  have hki : (k : Int) ≤ 1000000 := by omega
  have hk0 : (0 : Int) ≤ (k : Int) := by omega
  have hb1 : l.length + 1 ≤ 1000000000 := by omega
  obtain ⟨lf, hlf⟩ : ∃ lf, (Sx.list SY 0 xs).length = lf := ⟨_, rfl⟩
  have hbf : l.length + lf + 2 ≤ 900000000 := by omega
  have hbl0 := h.lt
  have HX := Lib.hid h
  have HK := Lib.hid hk
  have HP := Lib.hid ht
  have HR := Lib.hid hr
  have HZ := Lib.hid hz
  have HIH := Lib.hid ih
  have HLF := Lib.hid hlf
  clear h hr ht hz hc hlen hk ih hxl hcap hrow hlf
  go_enter Tryz.func117, Tryz.ntmps117
  go_upto_region 1 with (go_at_call 100; refine (put1 (s := [40]) HX.out ⟨by simp, by simp⟩ hb1).mono ?_; rintro e w3 ⟨rfl, hW3, hk3⟩)
  have HK3 := Lib.hid hk3
  have H3 := Lib.hid hW3.tight
  have hbl3 := hW3.lt
  clear hW3 hk3
  go_wp2_with fail
  go_loopg [13] k (fun i v wr => ∃ (m : Nat), i = k - m ∧ v = .int .i64 (m : Int) ∧ m ≤ k ∧ Wrote W0 b (l ++ [[40]] ++ Sx.list SY 0 (xs.take m)).length (l ++ [[40]] ++ Sx.list SY 0 (xs.take m)) wr ∧ KeepW w3 wr)
  case atStart => exact ⟨0, rfl, rfl, Nat.zero_le _, by simpa [Sx.list] using H3.out, KeepW.refl _⟩
  case round =>
    obtain ⟨m, hi, rfl, hm, hW, hkw⟩ := hrel
    have hle := Sx.list_le xs m
    have HI := Lib.hid hi
    have m0 : (0 : Int) ≤ (m : Int) := by omega
    have hblr := hW.lt
    have HKR := Lib.hid (HK3.out.trans hkw)
    have HK3R := Lib.hid hkw
    rw [HLF.out] at hle
    by_cases hlt : m < k
    · have hmi : (m : Int) < (k : Int) := by omega
      have hmp : m < xs.length := by have := HK.out; omega
      have hle2 := Sx.list_le xs (m + 1)
      have HWR := Lib.hid hW
      clear hi hW hkw
      obtain ⟨g, off, At, ct, An, cn, Aq, cq, rfl, hty, hc7⟩ := HP.out.spot m hmp
      obtain ⟨x, hxe⟩ : ∃ x, xs[m]'hmp = x := ⟨_, rfl⟩
      have hmem : x ∈ xs := by rw [← hxe]; exact List.getElem_mem hmp
      have hpt := Sx.list_take hmp
      rw [hxe] at hc7 hty hpt
      obtain ⟨hg, c0, c1, c2, c3, c4, c5, c6⟩ := hc7 wr HWR.out.below
      have hxs := Sx.sizeX_mem hmem
      have hxz : Sx.sizeX x ≤ 1000000 := by have := HZ.out; omega
      obtain ⟨q, hq⟩ : ∃ q, Sx.expr SY x = q := ⟨_, rfl⟩
      rw [hq] at hpt

      rw [hpt, HLF.out] at hle2
      obtain ⟨lm, hlm⟩ : ∃ lm, Sx.list SY 0 (xs.take m) = lm := ⟨_, rfl⟩
      rw [hlm] at hpt hle2
      have HW1 := Lib.hid (show Wrote W0 b (l ++ [[40]] ++ lm).length (l ++ [[40]] ++ lm) wr by rw [← hlm]; exact HWR.out)
      obtain ⟨cm, hcm⟩ : ∃ cm : List Lx.Bytes, (if 0 < m then [[44]] else []) = cm := ⟨_, rfl⟩
      have hcml : cm.length ≤ 1 := by rw [← hcm]; split <;> simp
      rw [hcm] at hpt hle2
      simp only [List.length_append] at hle2
      have hb4 : (l ++ [[40]] ++ lm).length + 1 ≤ 1000000000 := by simp; omega
      have hb5 : (l ++ [[40]] ++ lm ++ cm).length + q.length ≤ 900000000 := by simp; omega
      have hE := Lib.hid (show ∀ u w, IsEx W0 u x → Wrote W0 b (l ++ [[40]] ++ lm ++ cm).length (l ++ [[40]] ++ lm ++ cm) w → Calls Tryz.prog 64 #[.pointer (some ⟨b, 0, none⟩), u] w fun e w' => e = .returned (.tuple #[]) ∧ Wrote W0 b (l ++ [[40]] ++ lm ++ cm ++ q).length (l ++ [[40]] ++ lm ++ cm ++ q) w' ∧ KeepW w w' from fun u w hu hw => by
        have := HIH.out x hmem u (l ++ [[40]] ++ lm ++ cm) w (HR.out x hmem) hu hxz hw (by rw [hq]; exact hb5)
        rwa [hq] at this)
      have hCm := Lib.hid (show ∀ w, Wrote W0 b (l ++ [[40]] ++ lm).length (l ++ [[40]] ++ lm) w → Calls Tryz.prog 131 #[.pointer (some ⟨b, 0, none⟩), .int .i64 (m : Int)] w fun e w' => e = .returned (.tuple #[]) ∧ Wrote W0 b ((l ++ [[40]] ++ lm).length + 1) (l ++ [[40]] ++ lm ++ cm) w' ∧ KeepW w w' from fun w hw => by
        have := synComma m hw (by omega) hb4
        rwa [hcm] at this)
      obtain ⟨L, hL⟩ : ∃ L, wr.heap.size = L := ⟨_, rfl⟩
      obtain ⟨w4, hw4⟩ : ∃ w4, wr.alloc (.cells #[.int .i64 x.pos, .int .i64 x.kind, .int .i64 x.n, .string ⟨x.s.toArray⟩, .slice At x.t.length ct, .slice An x.names.length cn, .slice Aq x.parts.length cq] 39) = w4 := ⟨_, rfl⟩

      have hlv := Live.first HW1.out #[.int .i64 x.pos, .int .i64 x.kind, .int .i64 x.n, .string ⟨x.s.toArray⟩, .slice At x.t.length ct, .slice An x.names.length cn, .slice Aq x.parts.length cq] 39 hw4
      rw [hL] at hlv
      have H4 := Lib.hid hlv
      have HTY := Lib.hid hty
      have HPT := Lib.hid hpt
      clear hlv hty hpt hcm hlm hq hmem hxe hc7 hxs hxz
      obtain ⟨x0, x1, x2, x3, x4, x5, x6⟩ := seven_cells H4.out.b1
      obtain ⟨hl1, hl2, hbl⟩ := H4.out.lt
      go_upto_region 5 with (go_at_call 131; refine (hCm.out w4 H4.out.wr).mono ?_; rintro e w5 ⟨rfl, hW5, hk5⟩)
      have H5 := Lib.hid (H4.out.go oEx oEx hW5 hk5)
      clear hW5 hk5
      clear x0 x1 x2 x3 x4 x5 x6 hl1 hl2 hbl
      obtain ⟨x0, x1, x2, x3, x4, x5, x6⟩ := seven_cells H5.out.b1
      obtain ⟨hl1, hl2, hbl⟩ := H5.out.lt
      go_wp2_with (go_at_call 64; refine (hE.out _ w5 HTY.out H5.out.wr).mono ?_; rintro e w6 ⟨rfl, hW6, hk6⟩)
      have H6 := Lib.hid (H5.out.go oEx oEx hW6 hk6)
      clear hW6 hk6
      clear x0 x1 x2 x3 x4 x5 x6 hl1 hl2 hbl
      go_roundg (k - (m + 1))
      case measure => have := HI.out; omega
      case rel =>
        refine ⟨m + 1, rfl, by simp, hlt, ?_, HK3R.out.trans H6.out.kp⟩
        rw [HPT.out]
        simpa [List.append_assoc] using H6.out.wr
    · have hmi : ¬ (m : Int) < (k : Int) := by omega
      have hb6 : (l ++ [[40]] ++ Sx.list SY 0 (xs.take m)).length + 1 ≤ 1000000000 := by simp; omega
      have HW := Lib.hid hW
      have HTK := Lib.hid (List.take_of_length_le (show xs.length ≤ m by have := HK.out; omega))
      clear hi hW hkw
      go_wp2_with (go_at_call 100; refine (put1 (s := [41]) HW.out ⟨by simp, by simp⟩ hb6).mono ?_; rintro e w7 ⟨rfl, hW7, hk7⟩)
      go_end0
      refine ⟨rfl, ?_, HKR.out.trans hk7⟩
      unfold Sx.listed
      have h8 := hW7.tight
      rw [HTK.out] at h8
      simpa [List.append_assoc] using h8

end Go.Proofs.YtdncljdfmdgdaaaGreatDoor
