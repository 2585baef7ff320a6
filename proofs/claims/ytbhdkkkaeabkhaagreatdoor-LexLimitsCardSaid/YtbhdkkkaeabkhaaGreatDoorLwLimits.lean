/-
  The walk of LexLimits.
-/
import Derived.Test.YtbhdkkkaeabkhaaGreatDoorLwFew
import Derived.Test.YtbhdkkkaeabkhaaGreatDoorLxLimits
import Derived.OwnWalk
import Derived.Lib.AppendStr
namespace Go.Proofs.YtbhdkkkaeabkhaaGreatDoor
open Go.RowKit Go.Shelf
set_option linter.unusedSimpArgs false
set_option linter.unusedVariables false

theorem lawWithin (n lo hi : Int) (k : Nat) (hk : hi - lo + 1 = (k : Int)) (hk0 : 0 < k) (hk1 : k ≤ 100000) (hl0 : -100000 ≤ lo) (hl1 : lo ≤ 100000) (hn0 : -9223372036854775808 ≤ n) (hn1 : n ≤ 9223372036854775807) (w : World) :
    Calls Tryz.prog 23 #[.int .i64 n, .int .i64 lo, .int .i64 hi] w fun e w' => ∃ r : Int, e = .returned (.int .i64 (lo + r)) ∧ 0 ≤ r ∧ r < k ∧ w' = w := by
  obtain ⟨q, hq⟩ : ∃ q, n.tmod (k : Int) = q := ⟨_, rfl⟩
  have hq1 : q < (k : Int) := by rw [← hq]; exact Int.tmod_lt_of_pos n (by omega)
  have hq0 : -(k : Int) < q := by
    rw [← hq]
    have := Int.tmod_lt_of_pos (-n) (show (0 : Int) < (k : Int) by omega)
    rw [Int.neg_tmod] at this
    omega
  have hk2 : (1 : Int) ≤ (k : Int) := by omega
  have hk3 : (k : Int) ≤ 100000 := by omega
  have hkz : ¬ (k : Int) = 0 := by omega
  have hh0 : -100000 ≤ hi := by omega
  have hh1 : hi ≤ 200000 := by omega
  by_cases hneg : q < 0
  · go_enter Tryz.func23, Tryz.ntmps23
    go_wp2
    go_ret
    exact ⟨q + hi - lo + 1, rfl, by omega, by omega, rfl⟩
  · go_enter Tryz.func23, Tryz.ntmps23
    go_wp2
    go_ret
    exact ⟨q, rfl, by omega, by omega, rfl⟩

/-- A row of bytes, filled up to m. -/
def Fill (w : World) (g N m : Nat) (c : UInt8) : Prop := ∃ cur, w.heap[g]? = some (.cells cur 5 (0, 0)) ∧ cur.size = N ∧ ∀ j, j < m → cur[j]? = some (.int .u8 (c.toNat : Int))
theorem Fill.step {w : World} {g N m : Nat} {c : UInt8} (h : Fill w g N m c) (hm : m < N) : Fill (w.setCell ⟨g, m, none⟩ (.int .u8 (c.toNat : Int))) g N (m + 1) c := by
  obtain ⟨cur, h1, h2, h3⟩ := h
  refine ⟨cur.setIfInBounds m (.int .u8 (c.toNat : Int)), ?_, by simp [h2], fun j hj => ?_⟩
  · simp [World.setCell, Array.getElem?_modify, h1]
  · rw [Array.getElem?_setIfInBounds]
    by_cases e : m = j
    · subst e
      rw [if_pos rfl, if_pos (by omega)]
    · rw [if_neg e]
      exact h3 j (by omega)
theorem Fill.facts {w : World} {g N m j : Nat} {c : UInt8} (h : Fill w g N m c) (hj : j < N) : (∃ x, w.cell? ⟨g, j, none⟩ = some x) ∧ w.frozen? ⟨g, j, none⟩ = false ∧ g < w.heap.size := by
  obtain ⟨cur, h1, h2, h3⟩ := h
  refine ⟨?_, free_of h1 j, lt_of_block h1⟩
  rw [cell_of h1, Array.getElem?_eq_getElem (by omega)]
  exact ⟨_, rfl⟩
theorem Fill.own {w : World} {g N base : Nat} {c : UInt8} (h : Fill w g N N c) (hb : base ≤ g) (hN : N ≤ 9223372036854775807) : OwnB w base (.slice (some ⟨g, 0, none⟩) N N) (List.replicate N c) := by
  obtain ⟨cur, h1, h2, h3⟩ := h
  have hl : (List.replicate N c).length = N := List.length_replicate
  unfold OwnB
  rw [hl]
  refine ⟨by rw [bytesV_length, hl, Nat.mul_one], .inr ⟨g, N, cur, rfl, hb, h1, Nat.le_refl _, by unfold maxLen; omega, by omega, ?_⟩⟩
  apply List.ext_getElem?
  intro j
  unfold bytesV
  rw [List.map_replicate, Nat.mul_one, List.getElem?_take]
  by_cases hj : j < N
  · rw [if_pos hj, Array.getElem?_toList, h3 j hj, List.getElem?_replicate, if_pos hj]
  · rw [if_neg hj, List.getElem?_replicate, if_neg hj]
theorem LW.of_below {w W : World} (hG : GL w) (hN : NG ≤ w.heap.size) (hb : Below w.heap.size w W) : LW w W := ⟨hb, hG.below hb, Nat.le_trans hN hb.size⟩
theorem Below.set {w W : World} {g j : Nat} {v : Value} (h : Below w.heap.size w W) (hg : w.heap.size ≤ g) : Below w.heap.size w (W.setCell ⟨g, j, none⟩ v) := Below.turn h (grown_set W g j v) (fun r e => by injection e with e; omega)

theorem OwnB.turn {W W' : World} {row : Option Nat} {v : Value} {l : List UInt8} {base T : Nat} (h : OwnB W base v l) (ht : 5 ≠ T) (hg : W.grownBy W' row) (hr : ∀ r, row = some r → ∃ c, W.heap[r]? = some (.cells c T (0, 0))) : OwnB W' base v l := by
  refine World.ownsRow.kept h hg ?_
  cases hv : v.ownBlock with
  | none => exact .inl rfl
  | some g =>
    right
    obtain ⟨_, c, hc⟩ := row_kind h g hv
    intro e
    obtain ⟨c', hc'⟩ := hr g e.symm
    rw [hc] at hc'
    injection hc' with hc'
    injection hc' with _ h2 _
    exact ht h2
theorem OwnT.turn2 {W W' : World} {row : Option Nat} {v : Value} {l : List Lx.Tok} {base T : Nat} (h : OwnT W base v l) (ht : 26 ≠ T) (hg : W.grownBy W' row) (hr : ∀ r, row = some r → ∃ c, W.heap[r]? = some (.cells c T (0, 0))) : OwnT W' base v l := by
  refine World.ownsRow.kept h hg ?_
  cases hv : v.ownBlock with
  | none => exact .inl rfl
  | some g =>
    right
    obtain ⟨_, c, hc⟩ := row_kind h g hv
    intro e
    obtain ⟨c', hc'⟩ := hr g e.symm
    rw [hc] at hc'
    injection hc' with hc'
    injection hc' with _ h2 _
    exact ht h2
theorem OwnT.toks' {w : World} {base : Nat} {v : Value} {l : List Lx.Tok} (h : OwnT w base v l) : ToksIn w v l := by
  rcases h.2 with ⟨rfl, hn⟩ | ⟨g, cap, cur, rfl, hbg, hgb, hcap, hcm, hcs, htk⟩
  · exact .inl ⟨List.length_eq_zero_iff.1 hn, none, 0, rfl⟩
  · exact .inr ⟨g, cap, cur, (0, 0), rfl, hgb, htk⟩

theorem makeBytes (N : Nat) (L : Int) (hL : L = (N : Int)) (hN : N ≤ 1000000) (W : World) : (Instr.makeSlice 66 (.int .i64 L) (.int .i64 L)).run Tryz.prog W = .ok (.slice (some ⟨W.heap.size, 0, none⟩) N N) (W.alloc (.cells (madeCells #[.int .u8 0] N) 5)) := by
  obtain ⟨i0, hi, hz0, hz1, hz2⟩ := info_parts infoU8
  subst hL
  have h := run_make (P := Tryz.prog) W 66 5 i0 (.int .u8 0) Tryz.underlying66 hi hz0 .i64 .i64 (N : Int) (N : Int) (by omega) (Int.le_refl _) (by rw [hz2]; omega) (by omega)
  rw [hz1] at h
  simp only [Int.toNat_natCast, Nat.mul_one] at h
  exact h
theorem fillNew (W : World) (N : Nat) (c : UInt8) : Fill (W.alloc (.cells (madeCells #[.int .u8 0] N) 5)) W.heap.size N 0 c :=
  ⟨_, heap_alloc_new W _, size_madeCells _ _, fun j hj => by omega⟩

theorem lwRefusedT {w W : World} (h : LW w W) (g x y : Nat) (hR : IsRef W g x y) (hx : x ≤ 100000) (hy : y ≤ 1000000) :
    Calls Tryz.prog 17 #[.iface 74 (.pointer (some ⟨g, 0, none⟩)), .int .i64 (x : Int), .int .i64 (y : Int)] W fun e W' => e = .returned (.bool true) ∧ LW w W' := by
  have := lwRefused h g x y x y hR (by omega) hy
  simpa using this

set_option maxRecDepth 100000 in
set_option maxHeartbeats 8000000 in
theorem lawLimits (n : Int) (hn0 : -9223372036854775808 ≤ n) (hn1 : n ≤ 9223372036854775807) (k : Int) (hk0 : -9223372036854775808 ≤ k) (hk1 : k ≤ 9223372036854775807) (w : World) (hG : GL w) (hN : NG ≤ w.heap.size) : Calls Tryz.prog 9 #[.int .i64 n, .int .i64 k] w fun e w' => e = .returned (.bool true) ∧ LW w w' := by
  have H0 := LW.refl hG hN
  have hw1 := lawWithin n (-1) 1 3 rfl (by decide) (by decide) (by decide) (by decide) hn0 hn1 w
  have hw2 := lawWithin k 0 2 3 rfl (by decide) (by decide) (by decide) (by decide) hk0 hk1 w
  clear hn0 hn1 hk0 hk1
  go_enter Tryz.func9, Tryz.ntmps9
  go_upto_region 3 with (first
    | (go_at_call 23; refine hw1.mono ?_; clear hw1; rintro e W1 ⟨r, rfl, hr0, hr1, hWe⟩; rw [hWe]; clear hWe)
    | (go_at_call 23; refine hw2.mono ?_; clear hw2; rintro e W1 ⟨q, rfl, hq0, hq1, hWe⟩; rw [hWe]; clear hWe))
  obtain ⟨d, hd⟩ : ∃ d : Int, -1 + r = d := ⟨_, rfl⟩
  rw [hd]
  have hd0 : -1 ≤ d := by omega
  have hd1 : d ≤ 1 := by omega
  have hqq : q = 0 ∨ q = 1 ∨ q = 2 := by omega
  clear hd hr0 hr1 hq0 hq1
  rcases hqq with rfl | rfl | rfl
  · -- the longest text
    obtain ⟨N, hNd⟩ : ∃ N : Nat, (65536 : Int) + d = (N : Int) := ⟨(65536 + d).toNat, by omega⟩
    have hN1 : N ≤ 65537 := by omega
    have hmk := makeBytes N (65536 + d) hNd (by omega)
    have HN1 := Lib.hid hNd
    clear hNd
    go_upto_region 5 with fail
    have hfill := fillNew w N 32
    have hb0 : Below w.heap.size w (w.alloc (.cells (madeCells #[.int .u8 0] N) 5)) := grown_below (World.grownBy_alloc _ _ _)
    obtain ⟨W2, hW2⟩ : ∃ W2, w.alloc (.cells (madeCells #[.int .u8 0] N) 5) = W2 := ⟨_, rfl⟩
    rw [hW2] at hfill hb0 ⊢
    have HF := Lib.hid hfill
    have hN2 : (N : Int) ≤ 65537 := by omega
    clear hW2 hfill hmk
    go_wp2_with fail
    go_loopg [7] N (fun kk v wr => ∃ (m : Nat), kk = N - m ∧ v = .int .i64 (m : Int) ∧ m ≤ N ∧ Fill wr w.heap.size N m 32 ∧ Below w.heap.size w wr)
    case atStart => exact ⟨0, rfl, rfl, Nat.zero_le _, HF.out, hb0⟩
    case round =>
      obtain ⟨m, hn, rfl, hm, hf, hb⟩ := hrel
      have HN := Lib.hid hn
      clear hn
      have hi0 : (0 : Int) ≤ (m : Int) := by omega
      by_cases hlt : m < N
      · have hi : (m : Int) < (N : Int) := by omega
        obtain ⟨⟨x, hc⟩, hfz, hgl⟩ := hf.facts hlt
        have HFS := Lib.hid (hf.step hlt)
        have HBS := Lib.hid (Below.set (j := m) (v := .int .u8 (((32 : UInt8).toNat : Nat) : Int)) hb (Nat.le_refl _))
        clear hf
        go_wp2
        go_roundg (N - (m + 1))
        case measure => have := HN.out; omega
        case rel => exact ⟨m + 1, rfl, by simp, hlt, HFS.out, HBS.out⟩
      · have hi : ¬ (m : Int) < (N : Int) := by omega
        have hme : m = N := by omega
        subst hme
        have hst := strByte (hf.own (Nat.le_refl _) (by omega))
        have hLW := LW.of_below hG hN hb
        by_cases hbig : 65536 < m
        · have hdp : (0 : Int) < d := by have := HN1.out; omega
          have hdp2 : ¬ d ≤ 0 := by omega
          have hk := lwTokensBad hLW ⟨(List.replicate m 32).toArray⟩ (by show (List.replicate m (32 : UInt8)).length ≤ _; rw [List.length_replicate]; omega) (Lx.spaces_bad m hbig)
          clear hf
          go_wp2_with (first
            | (go_at_call 16; refine hk.mono ?_; clear hk; rintro e W4 ⟨g, rfl, H4, hR⟩)
            | (go_at_call 17; refine (lwRefusedT H4 g 0 2 hR (by decide) (by decide)).mono ?_; rintro e W5 ⟨rfl, H5⟩)
            | (go_at_call 3; refine (lwRuns H5).mono ?_; rintro e W6 ⟨rfl, H6⟩))
          go_ret
          exact ⟨rfl, H6⟩
        · have hdp : ¬ (0 : Int) < d := by have := HN1.out; omega
          have hdp2 : d ≤ 0 := by omega
          have hk := lwTokensOk hLW ⟨(List.replicate m 32).toArray⟩ (by show (List.replicate m (32 : UInt8)).length ≤ _; rw [List.length_replicate]; omega) (Lx.spaces_ok m (by omega))
          clear hf
          go_wp2_with (first
            | (go_at_call 16; refine hk.mono ?_; clear hk; rintro e W4 ⟨v, rfl, H4, hv⟩; obtain ⟨a4, c4, rfl⟩ := hv.slice)
            | (go_at_call 3; refine (lwRuns H4).mono ?_; rintro e W6 ⟨rfl, H6⟩))
          go_ret
          exact ⟨by show Ending.returned (.bool (!decide (0 < d))) = _; rw [decide_eq_false (show ¬ (0 : Int) < d by omega)]; rfl, H6⟩
  · -- the most tokens
    obtain ⟨N, hNd⟩ : ∃ N : Nat, (4096 : Int) + d = (N : Int) := ⟨(4096 + d).toNat, by omega⟩
    have hN1 : N ≤ 4097 := by omega
    have hN0 : 4095 ≤ N := by omega
    obtain ⟨i0, hi0, hz0, hz1, hz2⟩ := info_parts infoU8
    obtain ⟨j0, hj0, hy0, hy1, hy2⟩ := info_parts infoTok
    obtain ⟨Wa, hra, hoa, hga⟩ := run_make_own (P := Tryz.prog) w w.heap.size 66 5 i0 _ 1 Tryz.underlying66 hi0 hz0 hz1 .i64 .i64 9000 (by rw [hz2]; omega) (by unfold maxLen; omega) (Nat.le_refl _)
    obtain ⟨Wb, hrb, hob, hgb⟩ := run_make_own (P := Tryz.prog) Wa w.heap.size 28 26 j0 _ 4 Tryz.underlying28 hj0 hy0 hy1 .i64 .i64 4100 (by rw [hy2]; omega) (by unfold maxLen; omega) hga.size
    have hOB : OwnB Wb w.heap.size (.slice (some ⟨w.heap.size, 0, none⟩) 0 9000) [] := World.ownsRow.kept hoa hgb (.inr (by simp [Value.ownBlock]))
    have hOT : OwnT Wb w.heap.size (.slice (some ⟨Wa.heap.size, 0, none⟩) 0 4100) [] := hob
    have hb0 : Below w.heap.size w Wb := grown_below (hga.trans hgb)
    have hra' : (Instr.makeSlice 66 (.int .i64 0) (.int .i64 9000)).run Tryz.prog w = .ok (.slice (some ⟨w.heap.size, 0, none⟩) 0 9000) Wa := hra
    have hrb' : (Instr.makeSlice 28 (.int .i64 0) (.int .i64 4100)).run Tryz.prog Wa = .ok (.slice (some ⟨Wa.heap.size, 0, none⟩) 0 4100) Wb := hrb
    have HN1 := Lib.hid hNd
    have HOB := Lib.hid hOB
    have HOT := Lib.hid hOT
    clear hoa hob hOB hOT hga hgb hra hrb
    go_upto_region 14 with fail
    clear hra' hrb'
    go_wp2_with fail
    go_loopg [10, 11, 12] N (fun kk vb vt v wr => ∃ (m : Nat), kk = N - m ∧ v = .int .i64 (m : Int) ∧ m ≤ N ∧ OwnB wr w.heap.size vb (Lx.semis m) ∧ OwnT wr w.heap.size vt (List.replicate m Lx.semi) ∧ Below w.heap.size w wr)
    case atStart => exact ⟨0, rfl, rfl, Nat.zero_le _, HOB.out, HOT.out, hb0⟩
    case round =>
      obtain ⟨m, hn, rfl, hm, hob, hot, hb⟩ := hrel
      have HN := Lib.hid hn
      clear hn
      have him : (0 : Int) ≤ (m : Int) := by omega
      by_cases hlt : m < N
      · have hi : (m : Int) < 4096 + d := by have := HN1.out; omega
        have hob' : wr.ownsRow w.heap.size 5 1 u10 (2 * m) (bytesV (Lx.semis m)) := by have := hob; unfold OwnB at this; rw [Lx.semis_len] at this; exact this
        have HOB2 := Lib.hid hob
        have HOT2 := Lib.hid hot
        have hsz := hb.size
        clear hob hot
        have hlt2 : (List.replicate m Lx.semi).length = m := List.length_replicate
        have hot' : wr.ownsRow w.heap.size 26 4 u11 m ((List.replicate m Lx.semi).flatMap cellsT) := by have := HOT2.out; unfold OwnT at this; rw [hlt2] at this; exact this
        have htk : ∀ X, Calls Tryz.prog 15 #[.int .i64 6, .int .i64 0, .int .i64 0, .string ⟨#[59]⟩] X fun e X' => e = .returned (.agg #[.int .i64 0, .int .i64 6, .string ⟨#[59]⟩, .int .i64 0]) ∧ X.grownBy X' none := fun X => lawToken 6 0 0 ⟨#[59]⟩ X
        go_wp2_with (first
          | (at_builtin; refine Lib.wpList_append_own_string _ rfl _ _ 66 9 rfl w.heap.size 5 i0 Tryz.underlying66 Tryz.underlying9 hi0 hz0 hz1 hz2 u10 (2 * m) (bytesV (Lx.semis m)) rfl hob' ⟨#[59, 32]⟩ rfl (by unfold maxLen; show 2 * m + 2 ≤ _; omega) (by show 2 * m + 2 ≤ _; omega) hsz ?_; intro vb2 w2 hown2 hgrow2 _; have hot2 := OwnT.turn2 HOT2.out (by decide) hgrow2 (fun r e => (row_kind hob' r e).2); have hb2 := Below.turn hb hgrow2 (fun r e => (row_kind hob' r e).1))
          | (go_at_call 15; refine (htk _).mono ?_; rintro e w3 ⟨rfl, hg3⟩; have hown3 := World.ownsRow.kept hown2 hg3 (by cases Value.ownBlock _ <;> simp); have hot3 : OwnT w3 w.heap.size u11 (List.replicate m Lx.semi) := World.ownsRow.kept hot2 hg3 (by cases Value.ownBlock _ <;> simp); have hb3 := Below.turn hb2 hg3 (fun r e => nomatch e); have hsz3 := hb3.size; have hot3' : w3.ownsRow w.heap.size 26 4 u11 m ((List.replicate m Lx.semi).flatMap cellsT) := (by have := hot3; unfold OwnT at this; rw [hlt2] at this; exact this))
          | (at_builtin; refine wpList_append_own _ rfl _ _ 28 rfl w.heap.size 26 j0 _ 4 40 Tryz.underlying28 hj0 hy0 hy1 hy2 rfl (by decide) _ _ _ rfl (hot3'.alloc _) ⟨w3.heap.size, 0, none⟩ 1 1 (cellsT Lx.semi) rfl rfl (cells_new _ _ _) (by simp [cellsT, Value.oneCell']) (by unfold maxLen; omega) (by omega) (by simp; omega) ?_; intro vt4 w4 hown4 hgrow4 _))
        have hg4 : (w3.alloc (.cells #[.int .i64 0, .int .i64 6, .string ⟨#[59]⟩, .int .i64 0] 26)).grownBy w4 u11.ownBlock := hgrow4
        have hob3 : OwnB w3 w.heap.size vb2 (Lx.semis (m + 1)) := by
          unfold OwnB
          rw [Lx.semis_len, Lx.semis_snoc, show bytesV (Lx.semis m ++ [59, 32]) = bytesV (Lx.semis m) ++ Lib.strCells ⟨#[59, 32]⟩ by unfold bytesV Lib.strCells; rw [List.map_append]]
          exact hown3
        have hob4 := OwnB.turn (hob3.alloc (.cells #[.int .i64 0, .int .i64 6, .string ⟨#[59]⟩, .int .i64 0] 26)) (by decide) hg4 (fun r e => (row_kind (hot3'.alloc _) r e).2)
        have hot4 : OwnT w4 w.heap.size vt4 (List.replicate (m + 1) Lx.semi) := by
          unfold OwnT
          rw [List.length_replicate, List.replicate_succ', List.flatMap_append]
          simpa using hown4
        have hb4 := Below.turn (hb3.alloc hsz3 _) hg4 (fun r e => (row_kind hot3' r e).1)
        go_roundg (N - (m + 1))
        case measure => have := HN.out; omega
        case rel => exact ⟨m + 1, rfl, by simp, hlt, hob4, hot4, hb4⟩
      · have hi : ¬ (m : Int) < 4096 + d := by have := HN1.out; omega
        have hme : m = N := by omega
        subst hme
        have hst := strByte hob
        have hLW := LW.of_below hG hN hb
        have hts := hot.toks'
        obtain ⟨B, hB⟩ : ∃ B : ByteArray, (⟨(Lx.semis m).toArray⟩ : ByteArray) = B := ⟨_, rfl⟩
        have hBd : B.data.toList = Lx.semis m := by rw [← hB]
        have hBs : B.size ≤ 140737488351232 := by rw [← len_size, hBd, Lx.semis_len]; omega
        rw [hB] at hst
        obtain ⟨hT1, hT2⟩ := Lx.semis_toks m (by omega)
        obtain ⟨hJ1, hJ2⟩ := Lx.semis_join (m - 1) (by omega)
        rw [show m - 1 + 1 = m by omega] at hJ1 hJ2
        have hbnd : ∀ t ∈ List.replicate m Lx.semi, t.s.length ≤ 1000000000 ∧ -9223372036854775808 ≤ t.n ∧ t.n ≤ 9223372036854775807 := by
          intro t ht
          rw [List.eq_of_mem_replicate ht]
          decide
        have hrl : (List.replicate m Lx.semi).length = m := List.length_replicate
        obtain ⟨av, cv, hsl⟩ := hts.slice
        rw [hrl] at hsl
        have hm2 : (m : Int) ≤ 4097 := by omega
        by_cases hbig : m = 4097
        · have hdp : (0 : Int) < d := by have := HN1.out; omega
          obtain ⟨ts, hT⟩ := hT2 hbig
          have hk := lwTokensBad hLW.self B hBs (by rw [hBd]; exact hT)
          have hj : ∀ Z X, LW wr X → LW Z X → Calls Tryz.prog 18 #[.slice av m cv] X fun e X' => e = .returned (.tuple #[.string ⟨#[]⟩, .int .i64 3]) ∧ LW Z X' := fun Z X hX hZ => by
            have := lwJoin hZ (hts.below hX.b) (by rw [hrl]; omega) hbnd
            rw [hJ2 hbig, hsl] at this
            exact this
          subst hsl
          clear hob hot hts hT hT1 hT2 hJ1 hJ2 hB hBd hbnd hbig
          go_wp2_with (first
            | (go_at_call 16; refine hk.mono ?_; clear hk; rintro e W4 ⟨g, rfl, H4, hR⟩)
            | (go_at_call 18; refine (hj _ _ H4 H4.self).mono ?_; clear hj; rintro e W6 ⟨rfl, H6⟩; have hR6 : IsRef W6 g 8192 3 := (H6.b.block g (lt_of_block hR)).trans hR)
            | (go_at_call 17; refine (lwRefusedT H6.self g 8192 3 hR6 (by decide) (by decide)).mono ?_; rintro e W7 ⟨rfl, H7⟩; have H8 := hLW.trans (H4.trans (H6.trans H7)))
            | (go_at_call 3; refine (lwRuns H8).mono ?_; rintro e W9 ⟨rfl, H9⟩))
          go_ret
          exact ⟨rfl, H9⟩
        · have hdp : ¬ (0 : Int) < d := by have := HN1.out; omega
          obtain ⟨ts, hT, htl⟩ := hT1 (by omega)
          obtain ⟨b, hJ, hbl⟩ := hJ1 (by omega)
          have hk := lwTokensOk hLW.self B hBs (by rw [hBd]; exact hT)
          have hj : ∀ X, LW wr X → Calls Tryz.prog 18 #[.slice av m cv] X fun e X' => e = .returned (.tuple #[.string ⟨b.toArray⟩, .int .i64 0]) ∧ LW wr X' := fun X hX => by
            have := lwJoin hX (hts.below hX.b) (by rw [hrl]; omega) hbnd
            rw [hJ, hsl] at this
            exact this
          obtain ⟨S, hS⟩ : ∃ S : ByteArray, (⟨b.toArray⟩ : ByteArray) = S := ⟨_, rfl⟩
          have hSs : S.size = 2 * m - 1 := by
            rw [← hS]
            show b.length = _
            omega
          rw [hS] at hj
          have hlenq : (4096 : Int) + d = (m : Int) := HN1.out
          have hsq : (S.size : Int) = 2 * (m : Int) - 1 := by omega
          subst hsl
          clear hob hot hts hT hT1 hT2 hJ1 hJ2 hB hBd hbnd hbig hJ hS hSs
          go_wp2_with (first
            | (go_at_call 16; refine hk.mono ?_; clear hk; rintro e W4 ⟨v, rfl, H4, hv⟩; obtain ⟨a4, c4, rfl⟩ := hv.slice)
            | (go_at_call 18; refine (hj _ H4).mono ?_; clear hj; rintro e W6 ⟨rfl, H6⟩; have H8 := hLW.trans H6)
            | (go_at_call 3; refine (lwRuns H8).mono ?_; rintro e W9 ⟨rfl, H9⟩))
          go_ret
          exact ⟨rfl, H9⟩
  · -- the longest name
    obtain ⟨N, hNd⟩ : ∃ N : Nat, (32 : Int) + d = (N : Int) := ⟨(32 + d).toNat, by omega⟩
    have hN1 : N ≤ 33 := by omega
    have hmk := makeBytes N (32 + d) hNd (by omega)
    have HN1 := Lib.hid hNd
    clear hNd
    go_upto_region 25 with fail
    have hfill := fillNew w N 97
    have hb0 : Below w.heap.size w (w.alloc (.cells (madeCells #[.int .u8 0] N) 5)) := grown_below (World.grownBy_alloc _ _ _)
    obtain ⟨W2, hW2⟩ : ∃ W2, w.alloc (.cells (madeCells #[.int .u8 0] N) 5) = W2 := ⟨_, rfl⟩
    rw [hW2] at hfill hb0 ⊢
    have HF := Lib.hid hfill
    have hN2 : (N : Int) ≤ 65537 := by omega
    clear hW2 hfill hmk
    go_wp2_with fail
    go_loopg [18] N (fun kk v wr => ∃ (m : Nat), kk = N - m ∧ v = .int .i64 (m : Int) ∧ m ≤ N ∧ Fill wr w.heap.size N m 97 ∧ Below w.heap.size w wr)
    case atStart => exact ⟨0, rfl, rfl, Nat.zero_le _, HF.out, hb0⟩
    case round =>
      obtain ⟨m, hn, rfl, hm, hf, hb⟩ := hrel
      have HN := Lib.hid hn
      clear hn
      have hi0 : (0 : Int) ≤ (m : Int) := by omega
      by_cases hlt : m < N
      · have hi : (m : Int) < (N : Int) := by omega
        obtain ⟨⟨x, hc⟩, hfz, hgl⟩ := hf.facts hlt
        have HFS := Lib.hid (hf.step hlt)
        have HBS := Lib.hid (Below.set (j := m) (v := .int .u8 (((97 : UInt8).toNat : Nat) : Int)) hb (Nat.le_refl _))
        clear hf
        go_wp2
        go_roundg (N - (m + 1))
        case measure => have := HN.out; omega
        case rel => exact ⟨m + 1, rfl, by simp, hlt, HFS.out, HBS.out⟩
      · have hi : ¬ (m : Int) < (N : Int) := by omega
        have hme : m = N := by omega
        subst hme
        have hst := strByte (hf.own (Nat.le_refl _) (by omega))
        have hLW := LW.of_below hG hN hb
        obtain ⟨B, hB⟩ : ∃ B : ByteArray, (⟨(List.replicate m 97).toArray⟩ : ByteArray) = B := ⟨_, rfl⟩
        have hBd : B.data.toList = List.replicate m 97 := by rw [← hB]
        have hBs : B.size ≤ 140737488351232 := by rw [← len_size, hBd, List.length_replicate]; omega
        rw [hB] at hst
        have hst2 : ∀ X, LW wr X → (convert 66 9 (.slice (some ⟨w.heap.size, 0, none⟩) m m)).run Tryz.prog X = .ok (.string B) X := by
          intro X hX
          rw [← hB]
          obtain ⟨cur, h1, h2, h3⟩ := hf
          have hgl := lt_of_block h1
          exact strByte (Fill.own ⟨cur, (hX.b.block _ hgl).trans h1, h2, h3⟩ (Nat.le_refl _) (by omega))
        have hbnd : ∀ t ∈ [(⟨0, 1, List.replicate m 97, 0⟩ : Lx.Tok)], t.s.length ≤ 1000000000 ∧ -9223372036854775808 ≤ t.n ∧ t.n ≤ 9223372036854775807 := by
          intro t ht
          rw [List.mem_singleton] at ht
          subst ht
          exact ⟨by show (List.replicate m (97 : UInt8)).length ≤ _; rw [List.length_replicate]; omega, by simp, by simp⟩
        have hjn : ∀ Z X b y, Lx.join [⟨0, 1, List.replicate m 97, 0⟩] = (b, y) → LW Z X → Calls Tryz.prog 18 #[.slice (some ⟨X.heap.size, 0, none⟩) 1 1] (X.alloc (.cells #[.int .i64 0, .int .i64 1, .string B, .int .i64 0] 26)) fun e X' => e = .returned (.tuple #[.string ⟨b.toArray⟩, .int .i64 y]) ∧ LW Z X' := by
          intro Z X b y hJ hX
          rw [← hB]
          exact lwJoinNew hX [⟨0, 1, List.replicate m 97, 0⟩] 1 rfl (by simp) hbnd hJ
        clear hf hbnd
        by_cases hbig : m = 33
        · have hdp : (0 : Int) < d := by have := HN1.out; omega
          obtain ⟨⟨ts, o⟩, hT⟩ : ∃ r, Lx.toks (List.replicate m 97) = r := ⟨_, rfl⟩
          obtain ⟨⟨b, y⟩, hJ⟩ : ∃ r, Lx.join [⟨0, 1, List.replicate m 97, 0⟩] = r := ⟨_, rfl⟩
          have h33 := Lx.name33
          rw [← hbig, hT, hJ] at h33
          simp only at h33
          obtain ⟨rfl, rfl⟩ := h33
          have hk := lwTokensBad hLW.self B hBs (by rw [hBd]; exact hT)
          have hjn := fun Z X => hjn Z X b 1 hJ
          clear hT hJ hbig hB hBd
          go_wp2_with (first
            | (go_at_call 16; refine hk.mono ?_; clear hk; rintro e W4 ⟨g, rfl, H4, hR⟩; have hst4 := hst2 _ H4)
            | (go_at_call 15; refine (lwTok H4.self _ _ _ _).mono ?_; rintro e W5 ⟨rfl, H5⟩)
            | (go_at_call 18; refine (hjn _ _ H5).mono ?_; clear hjn; rintro e W6 ⟨rfl, H6⟩; have hR6 : IsRef W6 g 32 2 := (H6.b.block g (lt_of_block hR)).trans hR)
            | (go_at_call 17; refine (lwRefusedT H6.self g 32 2 hR6 (by decide) (by decide)).mono ?_; rintro e W7 ⟨rfl, H7⟩; have H8 := hLW.trans (H4.trans (H6.trans H7)))
            | (go_at_call 3; refine (lwRuns H8).mono ?_; rintro e W9 ⟨rfl, H9⟩))
          go_ret
          exact ⟨rfl, H9⟩
        · have hdp : ¬ (0 : Int) < d := by have := HN1.out; omega
          have hm2 : m = 31 ∨ m = 32 := by have := HN1.out; omega
          obtain ⟨⟨ts, o⟩, hT⟩ : ∃ r, Lx.toks (List.replicate m 97) = r := ⟨_, rfl⟩
          obtain ⟨⟨b, y⟩, hJ⟩ : ∃ r, Lx.join [⟨0, 1, List.replicate m 97, 0⟩] = r := ⟨_, rfl⟩
          have h3 : o = none ∧ ts.length = 1 ∧ y = 0 := by
            rcases hm2 with h | h
            · have h31 := Lx.name31
              rw [← h, hT, hJ] at h31
              exact h31
            · have h32 := Lx.name32
              rw [← h, hT, hJ] at h32
              exact h32
          obtain ⟨rfl, hts1, rfl⟩ := h3
          have hk := lwTokensOk hLW.self B hBs (by rw [hBd]; exact hT)
          have hjn := fun Z X => hjn Z X b 0 hJ
          clear hT hJ hbig hB hBd hm2
          go_wp2_with (first
            | (go_at_call 16; refine hk.mono ?_; clear hk; rintro e W4 ⟨v, rfl, H4, hv⟩; have hst4 := hst2 _ H4; obtain ⟨a4, c4, rfl⟩ := hv.slice)
            | (go_at_call 15; refine (lwTok H4.self _ _ _ _).mono ?_; rintro e W5 ⟨rfl, H5⟩)
            | (go_at_call 18; refine (hjn _ _ H5).mono ?_; clear hjn; rintro e W6 ⟨rfl, H6⟩; have H8 := hLW.trans (H4.trans H6))
            | (go_at_call 3; refine (lwRuns H8).mono ?_; rintro e W9 ⟨rfl, H9⟩))
          go_ret
          exact ⟨rfl, H9⟩

end Go.Proofs.YtbhdkkkaeabkhaaGreatDoor
