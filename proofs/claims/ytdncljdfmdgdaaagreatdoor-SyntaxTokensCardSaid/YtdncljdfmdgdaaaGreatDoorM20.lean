/-
  The walk of expr: the kinds without parts.
-/
import Derived.Test.YtdncljdfmdgdaaaGreatDoorM19
namespace Go.Proofs.YtdncljdfmdgdaaaGreatDoor
open Go.RowKit Go.Shelf Go.WideMaps
set_option linter.unusedSimpArgs false
set_option linter.unusedVariables false

set_option maxRecDepth 100000 in
theorem runTailX (a : Option Addr) (len cap : Nat) (w : World) (h : 1 ≤ len) :
    (Instr.slice 37 (.slice a len cap) (some (.int .i64 1)) none none).run Tryz.prog w = .ok (sliced a 1 len cap 7) w := by
  have hs : (sizeOf (Tryz.prog.elem 37)).run Tryz.prog w = .ok 7 w := by kernel_rfl
  rw [run_slice_l (P := Tryz.prog) w 37 a len cap Tryz.underlying37 .i64 1 (by omega) (by omega), hs]
  rfl
theorem IsExs.shift {W : World} {g off : Nat} : ∀ {l : List Sx.Ex} {i : Nat}, IsExs W (some ⟨g, off, none⟩) (i + 1) l → IsExs W (some ⟨g, off + 7, none⟩) i l
  | [], i, _ => by rw [IsExs]; trivial
  | t :: l, i, h => by
    rw [IsExs] at h ⊢
    obtain ⟨⟨g', off', v0, v1, v2, v3, v4, v5, v6, hA, k0, k1, k2, k3, k4, k5, k6, ht⟩, hl⟩ := h
    injection hA with hA
    injection hA with e1 e2
    subst e1 e2
    rw [show off + (i + 1) * 7 = off + 7 + i * 7 by omega] at k0 k1 k2 k3 k4 k5 k6
    exact ⟨⟨g, off + 7, v0, v1, v2, v3, v4, v5, v6, rfl, k0, k1, k2, k3, k4, k5, k6, ht⟩, IsExs.shift hl⟩
theorem ExRow.tail {W : World} {g off k cp : Nat} {l : List Sx.Ex} (h : ExRow W (.slice (some ⟨g, off, none⟩) k cp) l) (hl : 0 < l.length) : ExRow W (sliced (some ⟨g, off, none⟩) 1 k cp 7) l.tail := by
  obtain ⟨A, c, hv, hc, hr⟩ := h
  injection hv with e1 e2 e3
  subst e1 e2 e3
  cases l with
  | nil => simp at hl
  | cons x l =>
    rw [IsExs] at hr
    refine ⟨_, cp - 1, by unfold sliced; rw [List.tail_cons, List.length_cons]; rfl, by simp at hc ⊢; omega, ?_⟩
    rw [List.tail_cons]
    by_cases h1 : cp = 1
    · have : l = [] := by
        cases l with
        | nil => rfl
        | cons y l => simp at hc; omega
      subst this
      rw [IsExs]; trivial
    · rw [if_neg h1]
      exact IsExs.shift hr.2
theorem quote_ok (s : Lx.Bytes) (h : s.length ≤ 100000000) : Lx.quote s ≠ [] ∧ (Lx.quote s).length ≤ 1000000000 := ⟨by unfold Lx.quote; simp, by have := Lx.quote_len s; omega⟩
theorem grow_own (w : World) (k : Nat) (os : Array Obj) : w.grownBy (Sort.grow (w.drewN k) os) none := below_grown (Lib.below_grow _ _ (Nat.le_refl _) _ _)

set_option maxRecDepth 100000 in
set_option maxHeartbeats 8000000 in
theorem synExpr5 {W0 : World} {b : Nat} {x : Sx.Ex} (ih : ∀ p ∈ x.parts, ExprOk W0 b p) (hG : GS W0) (hN : NG ≤ W0.heap.size) (hkd : x.kind = 5) : ExprOk W0 b x := by
  intro v l w hr ht hz h hc
  obtain ⟨hsh, hrp⟩ := hr.shape
  have hsz := Sx.sizeX_parts x
  have hsl := Sx.textX_len x
  rw [Sx.expr_eq, hkd] at hc ⊢
  rw [hkd] at hsh
  simp only [Int.reduceEq, if_true, if_false, or_false, false_or, or_true, true_or, reduceIte, Nat.reduceEqDiff] at hc ⊢
  simp [Sx.shapeX] at hsh
  obtain ⟨At, ct, An, cn, Ap, cp, rfl, htt, hnn, hp, hn0, hn1⟩ := ht.agg
  rw [hkd]
  have hb : l.length + 1 ≤ 1000000000 := by simp at hc; omega
  obtain ⟨L, hL⟩ : ∃ L, w.heap.size = L := ⟨_, rfl⟩
  obtain ⟨w2, hw2⟩ : ∃ w2, w.alloc (.cells #[.int .i64 x.pos, .int .i64 5, .int .i64 x.n, .string ⟨x.s.toArray⟩, .slice At x.t.length ct, .slice An x.names.length cn, .slice Ap x.parts.length cp] 39) = w2 := ⟨_, rfl⟩
  have hlv := Live.first h #[.int .i64 x.pos, .int .i64 5, .int .i64 x.n, .string ⟨x.s.toArray⟩, .slice At x.t.length ct, .slice An x.names.length cn, .slice Ap x.parts.length cp] 39 hw2
  rw [hL] at hlv
  have H2 := Lib.hid hlv
  clear hlv h
  clear hr ht hz hc hsh hrp hsz hsl htt hnn hp hn0 hn1 hkd ih hG hN
  go_enter Tryz.func64, Tryz.ntmps64
  obtain ⟨x0, x1, x2, x3, x4, x5, x6⟩ := seven_cells H2.out.b1
  obtain ⟨hl1, hl2, hbl⟩ := H2.out.lt
  go_wp2_with (go_at_call 100; refine (H2.out.lput1 [115, 101, 108, 102] ⟨by simp, by simp⟩ hb).mono ?_; rintro e w3 ⟨rfl, hW3, hk3⟩)
  have H3 := Lib.hid (H2.out.go oEx oEx hW3 hk3)
  clear hW3 hk3
  clear x0 x1 x2 x3 x4 x5 x6 hl1 hl2 hbl
  go_end0
  refine ⟨rfl, ?_, H3.out.kp⟩
  have h9 := H3.out.wr
  exact h9

set_option maxRecDepth 100000 in
set_option maxHeartbeats 8000000 in
theorem synExpr4 {W0 : World} {b : Nat} {x : Sx.Ex} (ih : ∀ p ∈ x.parts, ExprOk W0 b p) (hG : GS W0) (hN : NG ≤ W0.heap.size) (hkd : x.kind = 4) : ExprOk W0 b x := by
  intro v l w hr ht hz h hc
  obtain ⟨hsh, hrp⟩ := hr.shape
  have hsz := Sx.sizeX_parts x
  have hsl := Sx.textX_len x
  rw [Sx.expr_eq, hkd] at hc ⊢
  rw [hkd] at hsh
  simp only [Int.reduceEq, if_true, if_false, or_false, false_or, or_true, true_or, reduceIte, Nat.reduceEqDiff] at hc ⊢
  simp [Sx.shapeX] at hsh
  obtain ⟨At, ct, An, cn, Ap, cp, rfl, htt, hnn, hp, hn0, hn1⟩ := ht.agg
  rw [hkd]
  have hb : l.length + 1 ≤ 1000000000 := by simp at hc; omega
  have hss : x.s ≠ [] ∧ x.s.length ≤ 1000000000 := ⟨NM.ok.small _ hsh.1, by omega⟩
  obtain ⟨L, hL⟩ : ∃ L, w.heap.size = L := ⟨_, rfl⟩
  obtain ⟨w2, hw2⟩ : ∃ w2, w.alloc (.cells #[.int .i64 x.pos, .int .i64 4, .int .i64 x.n, .string ⟨x.s.toArray⟩, .slice At x.t.length ct, .slice An x.names.length cn, .slice Ap x.parts.length cp] 39) = w2 := ⟨_, rfl⟩
  have hlv := Live.first h #[.int .i64 x.pos, .int .i64 4, .int .i64 x.n, .string ⟨x.s.toArray⟩, .slice At x.t.length ct, .slice An x.names.length cn, .slice Ap x.parts.length cp] 39 hw2
  rw [hL] at hlv
  have H2 := Lib.hid hlv
  clear hlv h
  have HSS := Lib.hid hss
  clear hr ht hz hc hsh hrp hsz hsl htt hnn hp hn0 hn1 hkd ih hG hN hss
  go_enter Tryz.func64, Tryz.ntmps64
  obtain ⟨x0, x1, x2, x3, x4, x5, x6⟩ := seven_cells H2.out.b1
  obtain ⟨hl1, hl2, hbl⟩ := H2.out.lt
  go_upto_region 10 with fail
  have HD2 := Lib.hid H2.out.drew
  go_region_with (go_at_call 100; refine (HD2.out.lput1 x.s HSS.out hb).mono ?_; rintro e w3 ⟨rfl, hW3, hk3⟩)
  have H3 := Lib.hid (HD2.out.go oEx oEx hW3 hk3)
  clear hW3 hk3
  clear x0 x1 x2 x3 x4 x5 x6 hl1 hl2 hbl
  go_end0
  refine ⟨rfl, ?_, H3.out.kp⟩
  have h9 := H3.out.wr
  exact h9

set_option maxRecDepth 100000 in
set_option maxHeartbeats 8000000 in
theorem synExpr1 {W0 : World} {b : Nat} {x : Sx.Ex} (ih : ∀ p ∈ x.parts, ExprOk W0 b p) (hG : GS W0) (hN : NG ≤ W0.heap.size) (hkd : x.kind = 1) : ExprOk W0 b x := by
  intro v l w hr ht hz h hc
  obtain ⟨hsh, hrp⟩ := hr.shape
  have hsz := Sx.sizeX_parts x
  have hsl := Sx.textX_len x
  rw [Sx.expr_eq, hkd] at hc ⊢
  rw [hkd] at hsh
  simp only [Int.reduceEq, if_true, if_false, or_false, false_or, or_true, true_or, reduceIte, Nat.reduceEqDiff] at hc ⊢
  simp [Sx.shapeX] at hsh
  have hn0' : 0 ≤ x.n := by have := hsh.2.1; omega
  obtain ⟨At, ct, An, cn, Ap, cp, rfl, htt, hnn, hp, hn0, hn1⟩ := ht.agg
  rw [hkd]
  have hb : l.length + 1 ≤ 1000000000 := by simp at hc; omega
  obtain ⟨dg, hdg⟩ : ∃ dg, SY.digits x.n = dg := ⟨_, rfl⟩
  have hdd : dg = Lib.decDigits x.n.toNat := by rw [← hdg]; rfl
  have hss : dg ≠ [] ∧ dg.length ≤ 1000000000 := by
    rw [hdd]
    have h1 := Lib.decDigits_length x.n.toNat
    have h2 := Lib.nDigits_pos x.n.toNat
    have h3 := nD_le 19 x.n.toNat (by omega)
    refine ⟨fun e => ?_, by omega⟩
    rw [e] at h1; simp at h1; omega
  have hit : ∀ w', Below W0.heap.size W0 w' → Calls Tryz.prog 113 #[.int .i64 x.n] w' fun e w'' => e = .returned (.string ⟨dg.toArray⟩) ∧ w'.grownBy w'' none := fun w' hb' =>
    (Tryz.strconv_Itoa x.n hn0 hn1 w' (hG.below hb').pow).mono fun e w'' ⟨he, k, os, hw⟩ => ⟨by rw [he, hdd]; unfold Lib.itoa; rw [if_neg (by omega)], by rw [hw]; exact grow_own _ _ _⟩
  rw [hdg]
  obtain ⟨L, hL⟩ : ∃ L, w.heap.size = L := ⟨_, rfl⟩
  obtain ⟨w2, hw2⟩ : ∃ w2, w.alloc (.cells #[.int .i64 x.pos, .int .i64 1, .int .i64 x.n, .string ⟨x.s.toArray⟩, .slice At x.t.length ct, .slice An x.names.length cn, .slice Ap x.parts.length cp] 39) = w2 := ⟨_, rfl⟩
  have hlv := Live.first h #[.int .i64 x.pos, .int .i64 1, .int .i64 x.n, .string ⟨x.s.toArray⟩, .slice At x.t.length ct, .slice An x.names.length cn, .slice Ap x.parts.length cp] 39 hw2
  rw [hL] at hlv
  have H2 := Lib.hid hlv
  clear hlv h
  have HSS := Lib.hid hss
  have HIT := Lib.hid hit
  clear hr ht hz hc hsh hrp hsz hsl htt hnn hp hn0 hn1 hkd ih hG hN hss hit hdd hdg
  go_enter Tryz.func64, Tryz.ntmps64
  obtain ⟨x0, x1, x2, x3, x4, x5, x6⟩ := seven_cells H2.out.b1
  obtain ⟨hl1, hl2, hbl⟩ := H2.out.lt
  go_upto_region 4 with fail
  have HD2 := Lib.hid H2.out.drew
  go_region_with (first | (go_at_call 113; refine (HIT.out _ HD2.out.wr.below).mono ?_; rintro e w9 ⟨rfl, hg9⟩; have HF := Lib.hid (HD2.out.grow hg9); have hl9 := HF.out.lt; clear hg9) | (go_at_call 100; refine (HF.out.lput1 dg HSS.out hb).mono ?_; rintro e w3 ⟨rfl, hW3, hk3⟩))
  have H3 := Lib.hid (HF.out.go oEx oEx hW3 hk3)
  clear hW3 hk3
  clear x0 x1 x2 x3 x4 x5 x6 hl1 hl2 hbl
  go_end0
  refine ⟨rfl, ?_, H3.out.kp⟩
  have h9 := H3.out.wr
  exact h9

set_option maxRecDepth 100000 in
set_option maxHeartbeats 8000000 in
theorem synExpr2 {W0 : World} {b : Nat} {x : Sx.Ex} (ih : ∀ p ∈ x.parts, ExprOk W0 b p) (hG : GS W0) (hN : NG ≤ W0.heap.size) (hkd : x.kind = 2) : ExprOk W0 b x := by
  intro v l w hr ht hz h hc
  obtain ⟨hsh, hrp⟩ := hr.shape
  have hsz := Sx.sizeX_parts x
  have hsl := Sx.textX_len x
  rw [Sx.expr_eq, hkd] at hc ⊢
  rw [hkd] at hsh
  simp only [Int.reduceEq, if_true, if_false, or_false, false_or, or_true, true_or, reduceIte, Nat.reduceEqDiff] at hc ⊢
  simp [Sx.shapeX] at hsh
  obtain ⟨At, ct, An, cn, Ap, cp, rfl, htt, hnn, hp, hn0, hn1⟩ := ht.agg
  rw [hkd]
  have hb : l.length + 1 ≤ 1000000000 := by simp at hc; omega
  obtain ⟨dg, hdg⟩ : ∃ dg, SY.quote x.s = dg := ⟨_, rfl⟩
  have hss : dg ≠ [] ∧ dg.length ≤ 1000000000 := by
    rw [← hdg]
    exact quote_ok x.s (by omega)
  have hit : ∀ w', Calls Tryz.prog 114 #[.string ⟨x.s.toArray⟩] w' fun e w'' => e = .returned (.string ⟨dg.toArray⟩) ∧ w'.grownBy w'' none := fun w' =>
    (lexQuote ⟨x.s.toArray⟩ w' (by simp [ByteArray.size]; omega)).mono fun e w'' ⟨he, hb⟩ => ⟨by rw [he, ← hdg]; rfl, below_grown hb⟩
  rw [hdg]
  obtain ⟨L, hL⟩ : ∃ L, w.heap.size = L := ⟨_, rfl⟩
  obtain ⟨w2, hw2⟩ : ∃ w2, w.alloc (.cells #[.int .i64 x.pos, .int .i64 2, .int .i64 x.n, .string ⟨x.s.toArray⟩, .slice At x.t.length ct, .slice An x.names.length cn, .slice Ap x.parts.length cp] 39) = w2 := ⟨_, rfl⟩
  have hlv := Live.first h #[.int .i64 x.pos, .int .i64 2, .int .i64 x.n, .string ⟨x.s.toArray⟩, .slice At x.t.length ct, .slice An x.names.length cn, .slice Ap x.parts.length cp] 39 hw2
  rw [hL] at hlv
  have H2 := Lib.hid hlv
  clear hlv h
  have HSS := Lib.hid hss
  have HIT := Lib.hid hit
  clear hr ht hz hc hsh hrp hsz hsl htt hnn hp hn0 hn1 hkd ih hG hN hss hit hdg
  go_enter Tryz.func64, Tryz.ntmps64
  obtain ⟨x0, x1, x2, x3, x4, x5, x6⟩ := seven_cells H2.out.b1
  obtain ⟨hl1, hl2, hbl⟩ := H2.out.lt
  go_upto_region 6 with fail
  have HD2 := Lib.hid H2.out.drew
  go_region_with (first | (go_at_call 114; refine (HIT.out _).mono ?_; rintro e w9 ⟨rfl, hg9⟩; have HF := Lib.hid (HD2.out.grow hg9); have hl9 := HF.out.lt; clear hg9) | (go_at_call 100; refine (HF.out.lput1 dg HSS.out hb).mono ?_; rintro e w3 ⟨rfl, hW3, hk3⟩))
  have H3 := Lib.hid (HF.out.go oEx oEx hW3 hk3)
  clear hW3 hk3
  clear x0 x1 x2 x3 x4 x5 x6 hl1 hl2 hbl
  go_end0
  refine ⟨rfl, ?_, H3.out.kp⟩
  have h9 := H3.out.wr
  exact h9

end Go.Proofs.YtdncljdfmdgdaaaGreatDoor
