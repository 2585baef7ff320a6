/-
  The walk of expr: a call, an application; all kinds.
  The walk of syntax.Expr.
  Types and expressions made: rows newly laid; the walks of coillaw2's small helpers.
  Small helpers of the laws.
  A law's two arguments that are types: their boxes, and what every call answers of them.
  Plain: a statement's size.
  What any memory holds: expressions, statements; their sizes up to a place.
-/
import Derived.Test.YtdncljdfmdgdaaaGreatDoorM21
import Derived.Test.YtdncljdfmdgdaaaGreatDoorM17
import Derived.Test.YtdncljdfmdgdaaaGreatDoorM6
import Derived.Test.YtdncljdfmdgdaaaGreatDoorM19
import Derived.Test.YtdncljdfmdgdaaaGreatDoorM11
import Derived.Test.YtdncljdfmdgdaaaGreatDoorM18
import Derived.Test.YtdncljdfmdgdaaaGreatDoorM12
import Derived.Test.YtdncljdfmdgdaaaGreatDoorM13
import Derived.Test.YtdncljdfmdgdaaaGreatDoorM10
namespace Go.Proofs.YtdncljdfmdgdaaaGreatDoor
open Go.RowKit Go.Shelf Go.WideMaps
set_option linter.unusedSimpArgs false
set_option linter.unusedVariables false

theorem Sx.sizeXs_tail (l : List Sx.Ex) : Sx.sizeXs l.tail ≤ Sx.sizeXs l := by
  cases l with
  | nil => exact Nat.le_refl _
  | cons x l => rw [List.tail_cons, Sx.sizeXs]; omega

set_option maxRecDepth 100000 in
set_option maxHeartbeats 8000000 in
theorem synExpr10 {W0 : World} {b : Nat} {x : Sx.Ex} (ih : ∀ p ∈ x.parts, ExprOk W0 b p) (hG : GS W0) (hN : NG ≤ W0.heap.size) (hkd : x.kind = 10) : ExprOk W0 b x := by
  intro v l w hr ht hz h hc
  obtain ⟨hsh, hrp⟩ := hr.shape
  have hsz := Sx.sizeX_parts x
  have hsl := Sx.textX_len x
  rw [Sx.expr_eq, hkd] at hc ⊢
  rw [hkd] at hsh
  simp only [Int.reduceEq, if_true, if_false, or_false, false_or, or_true, true_or, reduceIte, Nat.reduceEqDiff] at hc ⊢
  simp [Sx.shapeX] at hsh
  have hss0 := hsh.1
  have hpl : 1 ≤ x.parts.length := by have := hsh; omega
  have hlt0 : 0 < x.parts.length := by omega
  obtain ⟨At, ct, An, cn, Ap, cp, rfl, htt, hnn, hp, hn0, hn1⟩ := ht.agg
  rw [hkd]
  obtain ⟨g0, off0, At0, ct0, An0, cn0, Ap0, cp0, hA0, hty0, hc0⟩ := hp.spot 0 hlt0
  obtain ⟨p0, hpe0⟩ : ∃ p, x.parts[0]'hlt0 = p := ⟨_, rfl⟩
  have hmem0 : p0 ∈ x.parts := by rw [← hpe0]; exact List.getElem_mem hlt0
  rw [hpe0] at hc0 hty0
  have hz0 : Sx.sizeX p0 ≤ 1000000 := by have := Sx.sizeX_mem hmem0; omega
  have hlti0 : (0 : Int) < (x.parts.length : Int) := by omega
  have HC0 := Lib.hid hc0
  have HTY0 := Lib.hid hty0
  clear hc0 hty0
  subst hA0
  obtain ⟨V, hV⟩ : ∃ V, sliced (some ⟨g0, off0, none⟩) 1 x.parts.length cp 7 = V := ⟨_, rfl⟩
  have hrun : ∀ w, (Instr.slice 37 (.slice (some ⟨g0, off0, none⟩) x.parts.length cp) (some (.int .i64 1)) none none).run Tryz.prog w = .ok V w := fun w => by rw [runTailX _ _ _ _ (by omega), hV]
  have htl := hp.tail hlt0
  rw [hV] at htl
  have hlist := synList (b := b) (xs := x.parts.tail) (fun p hm => ih p (List.mem_of_mem_tail hm))
  have hszt : Sx.sizeXs x.parts.tail ≤ 1000000 := by have := Sx.sizeXs_tail x.parts; omega
  obtain ⟨qa, hqa⟩ : ∃ q, Sx.listed x.parts.tail = q := ⟨_, rfl⟩
  have hargs := Sx.args_tail hlt0
  rw [hqa] at hargs
  have hfirst := Sx.first_head 7 hlt0
  rw [hpe0] at hfirst
  obtain ⟨q0, hq0⟩ : ∃ q, Sx.part 7 p0 = q := ⟨_, rfl⟩
  rw [hq0] at hfirst
  rw [hfirst, hargs] at hc ⊢
  have hlen : l.length + (q0.length + 2 + qa.length) ≤ 900000000 := by simp at hc; omega
  have hss : x.s ≠ [] ∧ x.s.length ≤ 1000000000 := ⟨NM.ok.small _ hss0, by omega⟩
  have HA := Lib.hid (show ∀ u w, IsEx W0 u p0 → Wrote W0 b (l).length (l) w → Calls Tryz.prog 116 #[.pointer (some ⟨b, 0, none⟩), u, .int .i64 (7)] w fun e w' => e = .returned (.tuple #[]) ∧ Wrote W0 b (l ++ q0).length (l ++ q0) w' ∧ KeepW w w' from fun u w hu hw => by
    have := synPart (ih p0 hmem0) (7) (by omega) (hrp p0 hmem0).kind.1 (hrp p0 hmem0).kind.2 u (l) w (hrp p0 hmem0) hu hz0 hw (by rw [hq0]; (try simp); omega)
    rw [hq0] at this
    exact this)
  have HLI := Lib.hid (show ∀ w, Wrote W0 b (l ++ q0 ++ [[46], x.s]).length (l ++ q0 ++ [[46], x.s]) w → Calls Tryz.prog 117 #[.pointer (some ⟨b, 0, none⟩), V] w fun e w' => e = .returned (.tuple #[]) ∧ Wrote W0 b (l ++ q0 ++ [[46], x.s] ++ qa).length (l ++ q0 ++ [[46], x.s] ++ qa) w' ∧ KeepW w w' from fun w hw => by
    have := hlist V (l ++ q0 ++ [[46], x.s]) w (fun p hm => hrp p (List.mem_of_mem_tail hm)) htl hszt hw (by rw [hqa]; (try simp); omega)
    rw [hqa] at this
    exact this)
  have hb : (l ++ q0).length + 2 ≤ 1000000000 := by simp; omega
  have HSS := Lib.hid hss
  have hli : (1 : Int) ≤ (x.parts.length : Int) := by omega
  obtain ⟨L, hL⟩ : ∃ L, w.heap.size = L := ⟨_, rfl⟩
  obtain ⟨w2, hw2⟩ : ∃ w2, w.alloc (.cells #[.int .i64 x.pos, .int .i64 10, .int .i64 x.n, .string ⟨x.s.toArray⟩, .slice At x.t.length ct, .slice An x.names.length cn, .slice (some ⟨g0, off0, none⟩) x.parts.length cp] 39) = w2 := ⟨_, rfl⟩
  have hlv := Live.first h #[.int .i64 x.pos, .int .i64 10, .int .i64 x.n, .string ⟨x.s.toArray⟩, .slice At x.t.length ct, .slice An x.names.length cn, .slice (some ⟨g0, off0, none⟩) x.parts.length cp] 39 hw2
  rw [hL] at hlv
  have H2 := Lib.hid hlv
  clear hlv h
  clear hr ht hz hc hsh hrp hsz hsl htt hnn hp hn0 hn1 hkd ih hG hN hpe0 hmem0 hz0 hlt0 hss0 hpl hss hlen hq0 hfirst hqa hargs hszt hlist htl hV
  go_enter Tryz.func64, Tryz.ntmps64
  obtain ⟨x0, x1, x2, x3, x4, x5, x6⟩ := seven_cells H2.out.b1
  obtain ⟨hl1, hl2, hbl⟩ := H2.out.lt
  obtain ⟨dg, d0, d1, d2, d3, d4, d5, d6⟩ := HC0.out w2 H2.out.wr.below
  rw [Nat.zero_mul, Nat.add_zero] at d0 d1 d2 d3 d4 d5 d6
  go_upto_region 24 with (go_at_call 116; refine (HA.out _ w2 HTY0.out H2.out.wr).mono ?_; rintro e w3 ⟨rfl, hW3, hk3⟩)
  have H3 := Lib.hid (H2.out.go oEx oEx hW3 hk3)
  clear hW3 hk3
  clear x0 x1 x2 x3 x4 x5 x6 hl1 hl2 hbl d0 d1 d2 d3 d4 d5 d6 dg
  obtain ⟨x0, x1, x2, x3, x4, x5, x6⟩ := seven_cells H3.out.b1
  obtain ⟨hl1, hl2, hbl⟩ := H3.out.lt
  obtain ⟨dg, d0, d1, d2, d3, d4, d5, d6⟩ := HC0.out w3 H3.out.wr.below
  rw [Nat.zero_mul, Nat.add_zero] at d0 d1 d2 d3 d4 d5 d6
  go_upto_region 24 with fail
  have HD3 := Lib.hid H3.out.drew
  go_region_with (go_at_call 100; refine (HD3.out.lput2 [46] x.s ⟨by simp, by simp⟩ HSS.out hb).mono ?_; rintro e w4 ⟨rfl, hW4, hk4⟩)
  have H4 := Lib.hid (HD3.out.go oEx oEx hW4 hk4)
  clear hW4 hk4
  clear x0 x1 x2 x3 x4 x5 x6 hl1 hl2 hbl d0 d1 d2 d3 d4 d5 d6 dg
  obtain ⟨x0, x1, x2, x3, x4, x5, x6⟩ := seven_cells H4.out.b1
  obtain ⟨hl1, hl2, hbl⟩ := H4.out.lt
  obtain ⟨dg, d0, d1, d2, d3, d4, d5, d6⟩ := HC0.out w4 H4.out.wr.below
  rw [Nat.zero_mul, Nat.add_zero] at d0 d1 d2 d3 d4 d5 d6
  go_wp2_with (go_at_call 117; refine (HLI.out w4 H4.out.wr).mono ?_; rintro e w5 ⟨rfl, hW5, hk5⟩)
  have H5 := Lib.hid (H4.out.go oEx oEx hW5 hk5)
  clear hW5 hk5
  clear x0 x1 x2 x3 x4 x5 x6 hl1 hl2 hbl d0 d1 d2 d3 d4 d5 d6 dg
  go_end0
  refine ⟨rfl, ?_, H5.out.kp⟩
  have h9 := H5.out.wr
  simpa [List.append_assoc] using h9

set_option maxRecDepth 100000 in
set_option maxHeartbeats 8000000 in
theorem synExpr11 {W0 : World} {b : Nat} {x : Sx.Ex} (ih : ∀ p ∈ x.parts, ExprOk W0 b p) (hG : GS W0) (hN : NG ≤ W0.heap.size) (hkd : x.kind = 11) : ExprOk W0 b x := by
  intro v l w hr ht hz h hc
  obtain ⟨hsh, hrp⟩ := hr.shape
  have hsz := Sx.sizeX_parts x
  have hsl := Sx.textX_len x
  rw [Sx.expr_eq, hkd] at hc ⊢
  rw [hkd] at hsh
  simp only [Int.reduceEq, if_true, if_false, or_false, false_or, or_true, true_or, reduceIte, Nat.reduceEqDiff] at hc ⊢
  simp [Sx.shapeX] at hsh
  have hpl : 1 ≤ x.parts.length := by have := hsh; omega
  have hlt0 : 0 < x.parts.length := by omega
  obtain ⟨At, ct, An, cn, Ap, cp, rfl, htt, hnn, hp, hn0, hn1⟩ := ht.agg
  rw [hkd]
  obtain ⟨g0, off0, At0, ct0, An0, cn0, Ap0, cp0, hA0, hty0, hc0⟩ := hp.spot 0 hlt0
  obtain ⟨p0, hpe0⟩ : ∃ p, x.parts[0]'hlt0 = p := ⟨_, rfl⟩
  have hmem0 : p0 ∈ x.parts := by rw [← hpe0]; exact List.getElem_mem hlt0
  rw [hpe0] at hc0 hty0
  have hz0 : Sx.sizeX p0 ≤ 1000000 := by have := Sx.sizeX_mem hmem0; omega
  have hlti0 : (0 : Int) < (x.parts.length : Int) := by omega
  have HC0 := Lib.hid hc0
  have HTY0 := Lib.hid hty0
  clear hc0 hty0
  subst hA0
  obtain ⟨V, hV⟩ : ∃ V, sliced (some ⟨g0, off0, none⟩) 1 x.parts.length cp 7 = V := ⟨_, rfl⟩
  have hrun : ∀ w, (Instr.slice 37 (.slice (some ⟨g0, off0, none⟩) x.parts.length cp) (some (.int .i64 1)) none none).run Tryz.prog w = .ok V w := fun w => by rw [runTailX _ _ _ _ (by omega), hV]
  have htl := hp.tail hlt0
  rw [hV] at htl
  have hlist := synList (b := b) (xs := x.parts.tail) (fun p hm => ih p (List.mem_of_mem_tail hm))
  have hszt : Sx.sizeXs x.parts.tail ≤ 1000000 := by have := Sx.sizeXs_tail x.parts; omega
  obtain ⟨qa, hqa⟩ : ∃ q, Sx.listed x.parts.tail = q := ⟨_, rfl⟩
  have hargs := Sx.args_tail hlt0
  rw [hqa] at hargs
  have happ := Sx.applied_head hlt0
  rw [hpe0] at happ
  rw [hargs] at hc ⊢
  obtain ⟨kd0, hkd0⟩ : ∃ k, p0.kind = k := ⟨_, rfl⟩
  rw [hkd0] at happ
  have hli : (1 : Int) ≤ (x.parts.length : Int) := by omega
  by_cases h9 : kd0 = 9
  · have b9 : (kd0 == 9) = true := by rw [beq_iff_eq]; exact h9
    rw [if_pos h9] at happ
    obtain ⟨q0, hq0⟩ : ∃ q, Sx.within p0 = q := ⟨_, rfl⟩
    rw [hq0] at happ
    rw [happ] at hc ⊢
    have hlen : l.length + (q0.length + qa.length) ≤ 900000000 := by simp at hc; omega
    have HA := Lib.hid (show ∀ u w, IsEx W0 u p0 → Wrote W0 b l.length l w → Calls Tryz.prog 118 #[.pointer (some ⟨b, 0, none⟩), u] w fun e w' => e = .returned (.tuple #[]) ∧ Wrote W0 b (l ++ q0).length (l ++ q0) w' ∧ KeepW w w' from fun u w hu hw => by
      have := synWithin (ih p0 hmem0) u l w (hrp p0 hmem0) hu hz0 hw (by rw [hq0]; omega)
      rw [hq0] at this
      exact this)
    have HLI := Lib.hid (show ∀ w, Wrote W0 b (l ++ q0).length (l ++ q0) w → Calls Tryz.prog 117 #[.pointer (some ⟨b, 0, none⟩), V] w fun e w' => e = .returned (.tuple #[]) ∧ Wrote W0 b (l ++ q0 ++ qa).length (l ++ q0 ++ qa) w' ∧ KeepW w w' from fun w hw => by
      have := hlist V (l ++ q0) w (fun p hm => hrp p (List.mem_of_mem_tail hm)) htl hszt hw (by rw [hqa]; (try simp); omega)
      rw [hqa] at this
      exact this)
    rw [hkd0] at HC0 HTY0
    obtain ⟨L, hL⟩ : ∃ L, w.heap.size = L := ⟨_, rfl⟩
    obtain ⟨w2, hw2⟩ : ∃ w2, w.alloc (.cells #[.int .i64 x.pos, .int .i64 11, .int .i64 x.n, .string ⟨x.s.toArray⟩, .slice At x.t.length ct, .slice An x.names.length cn, .slice (some ⟨g0, off0, none⟩) x.parts.length cp] 39) = w2 := ⟨_, rfl⟩
    have hlv := Live.first h #[.int .i64 x.pos, .int .i64 11, .int .i64 x.n, .string ⟨x.s.toArray⟩, .slice At x.t.length ct, .slice An x.names.length cn, .slice (some ⟨g0, off0, none⟩) x.parts.length cp] 39 hw2
    rw [hL] at hlv
    have H2 := Lib.hid hlv
    clear hlv h
    clear hr ht hz hc hsh hrp hsz hsl htt hnn hp hn0 hn1 hkd ih hG hN hpe0 hmem0 hz0 hlt0 hpl hlen hq0 happ hqa hargs hszt hlist htl hV hkd0 h9
    go_enter Tryz.func64, Tryz.ntmps64
    obtain ⟨x0, x1, x2, x3, x4, x5, x6⟩ := seven_cells H2.out.b1
    obtain ⟨hl1, hl2, hbl⟩ := H2.out.lt
    obtain ⟨dg, d0, d1, d2, d3, d4, d5, d6⟩ := HC0.out w2 H2.out.wr.below
    rw [Nat.zero_mul, Nat.add_zero] at d0 d1 d2 d3 d4 d5 d6
    go_upto_region 30 with (go_at_call 118; refine (HA.out _ w2 HTY0.out H2.out.wr).mono ?_; rintro e w3 ⟨rfl, hW3, hk3⟩)
    have H3 := Lib.hid (H2.out.go oEx oEx hW3 hk3)
    clear hW3 hk3
    clear x0 x1 x2 x3 x4 x5 x6 hl1 hl2 hbl d0 d1 d2 d3 d4 d5 d6 dg
    obtain ⟨x0, x1, x2, x3, x4, x5, x6⟩ := seven_cells H3.out.b1
    obtain ⟨hl1, hl2, hbl⟩ := H3.out.lt
    obtain ⟨dg, d0, d1, d2, d3, d4, d5, d6⟩ := HC0.out w3 H3.out.wr.below
    rw [Nat.zero_mul, Nat.add_zero] at d0 d1 d2 d3 d4 d5 d6
    go_wp2_with (go_at_call 117; refine (HLI.out w3 H3.out.wr).mono ?_; rintro e w4 ⟨rfl, hW4, hk4⟩)
    have H4 := Lib.hid (H3.out.go oEx oEx hW4 hk4)
    clear hW4 hk4
    clear x0 x1 x2 x3 x4 x5 x6 hl1 hl2 hbl d0 d1 d2 d3 d4 d5 d6 dg
    go_end0
    refine ⟨rfl, ?_, H4.out.kp⟩
    have h9 := H4.out.wr
    simpa [List.append_assoc] using h9
  · have b9 : (kd0 == 9) = false := by rw [beq_eq_false_iff_ne]; exact h9
    rw [if_neg h9] at happ
    obtain ⟨q0, hq0⟩ : ∃ q, Sx.part 7 p0 = q := ⟨_, rfl⟩
    rw [hq0] at happ
    rw [happ] at hc ⊢
    have hlen : l.length + (q0.length + qa.length) ≤ 900000000 := by simp at hc; omega
    have HA := Lib.hid (show ∀ u w, IsEx W0 u p0 → Wrote W0 b (l).length (l) w → Calls Tryz.prog 116 #[.pointer (some ⟨b, 0, none⟩), u, .int .i64 (7)] w fun e w' => e = .returned (.tuple #[]) ∧ Wrote W0 b (l ++ q0).length (l ++ q0) w' ∧ KeepW w w' from fun u w hu hw => by
      have := synPart (ih p0 hmem0) (7) (by omega) (hrp p0 hmem0).kind.1 (hrp p0 hmem0).kind.2 u (l) w (hrp p0 hmem0) hu hz0 hw (by rw [hq0]; (try simp); omega)
      rw [hq0] at this
      exact this)
    have HLI := Lib.hid (show ∀ w, Wrote W0 b (l ++ q0).length (l ++ q0) w → Calls Tryz.prog 117 #[.pointer (some ⟨b, 0, none⟩), V] w fun e w' => e = .returned (.tuple #[]) ∧ Wrote W0 b (l ++ q0 ++ qa).length (l ++ q0 ++ qa) w' ∧ KeepW w w' from fun w hw => by
      have := hlist V (l ++ q0) w (fun p hm => hrp p (List.mem_of_mem_tail hm)) htl hszt hw (by rw [hqa]; (try simp); omega)
      rw [hqa] at this
      exact this)
    rw [hkd0] at HC0 HTY0
    obtain ⟨L, hL⟩ : ∃ L, w.heap.size = L := ⟨_, rfl⟩
    obtain ⟨w2, hw2⟩ : ∃ w2, w.alloc (.cells #[.int .i64 x.pos, .int .i64 11, .int .i64 x.n, .string ⟨x.s.toArray⟩, .slice At x.t.length ct, .slice An x.names.length cn, .slice (some ⟨g0, off0, none⟩) x.parts.length cp] 39) = w2 := ⟨_, rfl⟩
    have hlv := Live.first h #[.int .i64 x.pos, .int .i64 11, .int .i64 x.n, .string ⟨x.s.toArray⟩, .slice At x.t.length ct, .slice An x.names.length cn, .slice (some ⟨g0, off0, none⟩) x.parts.length cp] 39 hw2
    rw [hL] at hlv
    have H2 := Lib.hid hlv
    clear hlv h
    clear hr ht hz hc hsh hrp hsz hsl htt hnn hp hn0 hn1 hkd ih hG hN hpe0 hmem0 hz0 hlt0 hpl hlen hq0 happ hqa hargs hszt hlist htl hV hkd0 h9
    go_enter Tryz.func64, Tryz.ntmps64
    obtain ⟨x0, x1, x2, x3, x4, x5, x6⟩ := seven_cells H2.out.b1
    obtain ⟨hl1, hl2, hbl⟩ := H2.out.lt
    obtain ⟨dg, d0, d1, d2, d3, d4, d5, d6⟩ := HC0.out w2 H2.out.wr.below
    rw [Nat.zero_mul, Nat.add_zero] at d0 d1 d2 d3 d4 d5 d6
    go_upto_region 30 with (go_at_call 116; refine (HA.out _ w2 HTY0.out H2.out.wr).mono ?_; rintro e w3 ⟨rfl, hW3, hk3⟩)
    have H3 := Lib.hid (H2.out.go oEx oEx hW3 hk3)
    clear hW3 hk3
    clear x0 x1 x2 x3 x4 x5 x6 hl1 hl2 hbl d0 d1 d2 d3 d4 d5 d6 dg
    obtain ⟨x0, x1, x2, x3, x4, x5, x6⟩ := seven_cells H3.out.b1
    obtain ⟨hl1, hl2, hbl⟩ := H3.out.lt
    obtain ⟨dg, d0, d1, d2, d3, d4, d5, d6⟩ := HC0.out w3 H3.out.wr.below
    rw [Nat.zero_mul, Nat.add_zero] at d0 d1 d2 d3 d4 d5 d6
    go_wp2_with (go_at_call 117; refine (HLI.out w3 H3.out.wr).mono ?_; rintro e w4 ⟨rfl, hW4, hk4⟩)
    have H4 := Lib.hid (H3.out.go oEx oEx hW4 hk4)
    clear hW4 hk4
    clear x0 x1 x2 x3 x4 x5 x6 hl1 hl2 hbl d0 d1 d2 d3 d4 d5 d6 dg
    go_end0
    refine ⟨rfl, ?_, H4.out.kp⟩
    have h9 := H4.out.wr
    simpa [List.append_assoc] using h9

theorem synExprAll {W0 : World} {b : Nat} (hG : GS W0) (hN : NG ≤ W0.heap.size) : ∀ (n : Nat) (x : Sx.Ex), Sx.sizeX x ≤ n → ExprOk W0 b x := by
  intro n
  induction n with
  | zero => intro x h; have := Sx.sizeX_pos x; omega
  | succ n ihn =>
    intro x hx
    have ih : ∀ p ∈ x.parts, ExprOk W0 b p := fun p hp => ihn p (by
      have := Sx.sizeX_mem hp
      have := Sx.sizeX_parts x
      omega)
    intro v l w hr ht hz h hc
    have hk := hr.kind
    have : x.kind = 1 ∨ x.kind = 2 ∨ x.kind = 3 ∨ x.kind = 4 ∨ x.kind = 5 ∨ x.kind = 6 ∨ x.kind = 7 ∨ x.kind = 8 ∨ x.kind = 9 ∨ x.kind = 10 ∨ x.kind = 11 ∨ x.kind = 12 ∨ x.kind = 13 ∨ x.kind = 14 ∨ 15 ≤ x.kind := by omega
    rcases this with h1 | h1 | h1 | h1 | h1 | h1 | h1 | h1 | h1 | h1 | h1 | h1 | h1 | h1 | h1
    · exact synExpr1 ih hG hN h1 v l w hr ht hz h hc
    · exact synExpr2 ih hG hN h1 v l w hr ht hz h hc
    · exact synExpr3 ih hG hN h1 v l w hr ht hz h hc
    · exact synExpr4 ih hG hN h1 v l w hr ht hz h hc
    · exact synExpr5 ih hG hN h1 v l w hr ht hz h hc
    · exact synExpr6 ih hG hN h1 v l w hr ht hz h hc
    · exact synExpr7 ih hG hN h1 v l w hr ht hz h hc
    · exact synExpr8 ih hG hN h1 v l w hr ht hz h hc
    · exact synExpr9 ih hG hN h1 v l w hr ht hz h hc
    · exact synExpr10 ih hG hN h1 v l w hr ht hz h hc
    · exact synExpr11 ih hG hN h1 v l w hr ht hz h hc
    · exact synExpr12 ih hG hN h1 v l w hr ht hz h hc
    · exact synExpr13 ih hG hN h1 v l w hr ht hz h hc
    · exact synExpr14 ih hG hN h1 v l w hr ht hz h hc
    · exact synExpr15 ih h1 v l w hr ht hz h hc

end Go.Proofs.YtdncljdfmdgdaaaGreatDoor

namespace Go.Proofs.YtdncljdfmdgdaaaGreatDoor
open Go.RowKit Go.Shelf Go.WideMaps
set_option linter.unusedSimpArgs false
set_option linter.unusedVariables false

set_option maxRecDepth 100000 in
set_option maxHeartbeats 4000000 in
theorem synExpr (t : Sx.Ex) (v : Value) (W : World) (hG : GS W) (hN : NG ≤ W.heap.size) (ht : IsEx W v t) (hsz : Sx.sizeX t ≤ 1000000) (hlen : (Sx.expr SY t).length ≤ 900000000) :
    Calls Tryz.prog 23 #[v] W fun e W' => e = .returned (.tuple #[.string ⟨(Sx.said (Sx.rightX NM 64 t) (Sx.expr SY t)).1.toArray⟩, .int .i64 ((Sx.said (Sx.rightX NM 64 t) (Sx.expr SY t)).2 : Nat)]) ∧ Below W.heap.size W W' := by
  have hrt : ∀ X, Below W.heap.size W X → Calls Tryz.prog 63 #[v, .int .i64 64] X fun e W' => e = .returned (.bool (Sx.rightX NM 64 t)) ∧ Below X.heap.size X W' := fun X hb => synRightXAll _ t (Nat.le_refl _) 64 (by omega) v X (hG.below hb) (Nat.le_trans hN hb.size) (IsEx.below hb t v ht) hsz
  have htyp := fun b w (hr : Sx.rightX NM 64 t = true) (h : Wrote W b 0 [] w) => synExprAll (b := b) hG hN _ t (Nat.le_refl _) v [] w ⟨64, hr⟩ ht hsz h (by simpa using hlen)
  obtain ⟨At, ct, An, cn, Ap, cp, rfl, -⟩ := ht.agg
  obtain ⟨L, hL⟩ : ∃ L, W.heap.size = L := ⟨_, rfl⟩
  obtain ⟨w2, hw2⟩ : ∃ w2, W.alloc (.cells #[.int .i64 t.pos, .int .i64 t.kind, .int .i64 t.n, .string ⟨t.s.toArray⟩, .slice At t.t.length ct, .slice An t.names.length cn, .slice Ap t.parts.length cp] 39) = w2 := ⟨_, rfl⟩
  have hbox : w2.heap[L]? = some (.cells #[.int .i64 t.pos, .int .i64 t.kind, .int .i64 t.n, .string ⟨t.s.toArray⟩, .slice At t.t.length ct, .slice An t.names.length cn, .slice Ap t.parts.length cp] 39 (0, 0)) := by rw [← hw2, ← hL]; exact heap_alloc_new W _
  have hb2 : Below W.heap.size W w2 := by rw [← hw2]; exact grown_below (World.grownBy_alloc W _ none)
  obtain ⟨K, hK⟩ : ∃ K, w2.heap.size = K := ⟨_, rfl⟩
  have hLK : L ≤ K ∧ L < K := by rw [← hK, ← hw2, ← hL]; simp
  obtain ⟨w3, hw3⟩ : ∃ w3, w2.alloc (.cells #[.pointer none, .slice none 0 0, .int .i64 0] 104) = w3 := ⟨_, rfl⟩
  have htree : w3.heap[K]? = some (.cells #[.pointer none, .slice none 0 0, .int .i64 0] 104 (0, 0)) := by rw [← hw3, ← hK]; exact heap_alloc_new w2 _
  have hg3 : Below w2.heap.size w2 w3 := by rw [← hw3]; exact grown_below (World.grownBy_alloc w2 _ none)
  have hb3 : Below W.heap.size W w3 := hb2.trans (hg3.mono hb2.size)
  have hbox3 := (hg3.block L (by omega)).trans hbox
  have hs3 : K < w3.heap.size := lt_of_block htree
  obtain ⟨x0, x1, x2, x3, x4, x5, x6⟩ := seven_cells hbox3
  have hl3 := lt_of_block hbox3
  have HFR := Lib.hid (show ∀ w4, Below w3.heap.size w3 w4 → Wrote W K 0 [] w4 ∧ K < w4.heap.size ∧ w4.heap[L]? = w3.heap[L]? from fun w4 hb4 =>
    ⟨Wrote.fresh (by omega) ((hb4.block K hs3).trans htree) (hb3.trans (hb4.mono hb3.size)), Nat.lt_of_lt_of_le hs3 hb4.size, hb4.block L hl3⟩)
  have HRT := Lib.hid (hrt w3 hb3)
  have HTYP := Lib.hid htyp
  have HTREE := Lib.hid htree
  have HBOX3 := Lib.hid hbox3
  have HB3 := Lib.hid hb3
  have HL := Lib.hid hL
  have HLK := Lib.hid hLK
  have HSZ := Lib.hid hsz
  have HLN := Lib.hid hlen
  clear hLK hrt htyp ht hlen hbox hb2 hg3 hb3 hbox3 htree hG hsz
  cases hr : Sx.rightX NM 64 t with
  | false =>
    rw [hr] at HRT
    have HR := Lib.hid hr
    clear hr
    go_enter Tryz.func23, Tryz.ntmps23
    go_wp2_with (first
      | (go_at_call 63; refine HRT.out.mono ?_; rintro e w4 ⟨rfl, hb4⟩; obtain ⟨hW, hl4, -⟩ := HFR.out w4 hb4; have hW4 := Lib.hid hW; clear hb4 hW)
      | (go_at_call 60; refine (toldEnd hW4.out (by omega) false (fun _ => rfl)).mono ?_; rintro e w5 ⟨rfl, hb5⟩))
    refine bodyPost_ret (results_tmp2 rfl _ _ _) rfl ?_
    exact ⟨rfl, hb5⟩
  | true =>
    rw [hr] at HRT
    have HR := Lib.hid hr
    clear hr
    go_enter Tryz.func23, Tryz.ntmps23
    go_wp2_with (first
      | (go_at_call 63; refine HRT.out.mono ?_; rintro e w4 ⟨rfl, hb4⟩; obtain ⟨hW, hl4, hbl4⟩ := HFR.out w4 hb4; have hW4 := Lib.hid hW; have hbox4 := hbl4.trans HBOX3.out; clear hb4 hW hbl4 x0 x1 x2 x3 x4 x5 x6; obtain ⟨x0, x1, x2, x3, x4, x5, x6⟩ := seven_cells hbox4; clear hbox4)
      | (go_at_call 64; refine (HTYP.out (K) w4 HR.out hW4.out).mono ?_; rintro e w5 ⟨rfl, h5, -⟩; have hl5 := h5.lt; have hW5 := Lib.hid h5; clear h5)
      | (go_at_call 60; refine (toldEnd hW5.out (by have := HLN.out; simp; omega) true (fun h => by cases h)).mono ?_; rintro e w6 ⟨rfl, hb6⟩))
    refine bodyPost_ret (results_tmp2 rfl _ _ _) rfl ?_
    exact ⟨rfl, hb6⟩

end Go.Proofs.YtdncljdfmdgdaaaGreatDoor

namespace Go.Proofs.YtdncljdfmdgdaaaGreatDoor
open Go.RowKit Go.Shelf
set_option linter.unusedSimpArgs false
set_option linter.unusedVariables false

theorem StrRow.nil (w : World) (A : Option Addr) (c : Nat) : StrRow w (.slice A 0 c) [] := ⟨A, c, rfl, fun i h => by simp at h⟩
theorem BoolRow.nil (w : World) (A : Option Addr) (c : Nat) : BoolRow w (.slice A 0 c) [] := ⟨A, c, rfl, fun i h => by simp at h⟩
theorem TyRow.nil (w : World) (A : Option Addr) (c : Nat) : TyRow w (.slice A 0 c) [] := ⟨A, c, rfl, Nat.zero_le _, by rw [IsTys]; trivial⟩
theorem ExRow.nil (w : World) (A : Option Addr) (c : Nat) : ExRow w (.slice A 0 c) [] := ⟨A, c, rfl, Nat.zero_le _, by rw [IsExs]; trivial⟩
theorem StRow.nil (w : World) (A : Option Addr) (c : Nat) : StRow w (.slice A 0 c) [] := ⟨A, c, rfl, Nat.zero_le _, by rw [IsSts]; trivial⟩
theorem StrRow.new (w : World) (l : List Lx.Bytes) : StrRow (w.alloc (.cells (strsV l).toArray 9)) (.slice (some ⟨w.heap.size, 0, none⟩) l.length l.length) l :=
  ⟨_, _, rfl, fun i h => ⟨_, 0, rfl, by rw [Nat.zero_add]; exact (Row.new w l).at h⟩⟩
theorem BoolRow.new (w : World) (l : List Bool) : BoolRow (w.alloc (.cells (l.map Value.bool).toArray 4)) (.slice (some ⟨w.heap.size, 0, none⟩) l.length l.length) l :=
  ⟨_, _, rfl, fun i h => ⟨_, 0, rfl, by rw [Nat.zero_add, cell_of (heap_alloc_new w _)]; simp [h]⟩⟩
theorem IsTy.made {w : World} {k : Int} {nm : Lx.Bytes} {vn ve vp : Value} {ns : List Lx.Bytes} {es : List Bool} {ps : List Sx.Ty} (h1 : StrRow w vn ns) (h2 : BoolRow w ve es) (h3 : TyRow w vp ps) :
    IsTy w (.agg #[.int .i64 k, .string ⟨nm.toArray⟩, vn, ve, vp]) (.mk k nm ns es ps) := by
  obtain ⟨A, c, rfl, hc, hl⟩ := h3
  rw [IsTy]
  exact ⟨vn, ve, A, c, rfl, h1, h2, hc, hl⟩
theorem TyRow.new1 {w : World} {v0 v1 v2 v3 v4 : Value} {t : Sx.Ty} (h : IsTy w (.agg #[v0, v1, v2, v3, v4]) t) :
    TyRow (w.alloc (.cells #[v0, v1, v2, v3, v4] 26)) (.slice (some ⟨w.heap.size, 0, none⟩) 1 1) [t] := by
  have hb := heap_alloc_new w (.cells #[v0, v1, v2, v3, v4] 26)
  refine ⟨_, 1, rfl, Nat.le_refl _, ?_⟩
  rw [IsTys, IsTys]
  exact ⟨⟨_, 0, v0, v1, v2, v3, v4, rfl, cell_of hb 0, cell_of hb 1, cell_of hb 2, cell_of hb 3, cell_of hb 4, IsTy.below (grown_below (World.grownBy_alloc w _ none)) _ _ h⟩, trivial⟩
theorem TyRow.new2 {w : World} {v0 v1 v2 v3 v4 u0 u1 u2 u3 u4 : Value} {t s : Sx.Ty} (h : IsTy w (.agg #[v0, v1, v2, v3, v4]) t) (h' : IsTy w (.agg #[u0, u1, u2, u3, u4]) s) :
    TyRow (w.alloc (.cells #[v0, v1, v2, v3, v4, u0, u1, u2, u3, u4] 26)) (.slice (some ⟨w.heap.size, 0, none⟩) 2 2) [t, s] := by
  have hb := heap_alloc_new w (.cells #[v0, v1, v2, v3, v4, u0, u1, u2, u3, u4] 26)
  refine ⟨_, 2, rfl, Nat.le_refl _, ?_⟩
  rw [IsTys, IsTys, IsTys]
  exact ⟨⟨_, 0, v0, v1, v2, v3, v4, rfl, cell_of hb 0, cell_of hb 1, cell_of hb 2, cell_of hb 3, cell_of hb 4, IsTy.below (grown_below (World.grownBy_alloc w _ none)) _ _ h⟩,
    ⟨_, 0, u0, u1, u2, u3, u4, rfl, cell_of hb 5, cell_of hb 6, cell_of hb 7, cell_of hb 8, cell_of hb 9, IsTy.below (grown_below (World.grownBy_alloc w _ none)) _ _ h'⟩, trivial⟩
theorem IsEx.made {w : World} {pos k n : Int} {s : Lx.Bytes} {vt vn vp : Value} {t : List Sx.Ty} {ns : List Lx.Bytes} {ps : List Sx.Ex} (h1 : TyRow w vt t) (h2 : StrRow w vn ns) (h3 : ExRow w vp ps) (hn0 : -9223372036854775808 ≤ n) (hn1 : n ≤ 9223372036854775807) :
    IsEx w (.agg #[.int .i64 pos, .int .i64 k, .int .i64 n, .string ⟨s.toArray⟩, vt, vn, vp]) (.mk pos k n s t ns ps) := by
  obtain ⟨A, c, rfl, hc, hl⟩ := h3
  rw [IsEx]
  exact ⟨vt, vn, A, c, rfl, h1, h2, hc, hl, hn0, hn1⟩
theorem ExRow.new1 {w : World} {v0 v1 v2 v3 v4 v5 v6 : Value} {t : Sx.Ex} (h : IsEx w (.agg #[v0, v1, v2, v3, v4, v5, v6]) t) :
    ExRow (w.alloc (.cells #[v0, v1, v2, v3, v4, v5, v6] 39)) (.slice (some ⟨w.heap.size, 0, none⟩) 1 1) [t] := by
  have hb := heap_alloc_new w (.cells #[v0, v1, v2, v3, v4, v5, v6] 39)
  refine ⟨_, 1, rfl, Nat.le_refl _, ?_⟩
  rw [IsExs, IsExs]
  exact ⟨⟨_, 0, v0, v1, v2, v3, v4, v5, v6, rfl, cell_of hb 0, cell_of hb 1, cell_of hb 2, cell_of hb 3, cell_of hb 4, cell_of hb 5, cell_of hb 6, IsEx.below (grown_below (World.grownBy_alloc w _ none)) _ _ h⟩, trivial⟩
theorem ExRow.new2 {w : World} {v0 v1 v2 v3 v4 v5 v6 u0 u1 u2 u3 u4 u5 u6 : Value} {t s : Sx.Ex} (h : IsEx w (.agg #[v0, v1, v2, v3, v4, v5, v6]) t) (h' : IsEx w (.agg #[u0, u1, u2, u3, u4, u5, u6]) s) :
    ExRow (w.alloc (.cells #[v0, v1, v2, v3, v4, v5, v6, u0, u1, u2, u3, u4, u5, u6] 39)) (.slice (some ⟨w.heap.size, 0, none⟩) 2 2) [t, s] := by
  have hb := heap_alloc_new w (.cells #[v0, v1, v2, v3, v4, v5, v6, u0, u1, u2, u3, u4, u5, u6] 39)
  refine ⟨_, 2, rfl, Nat.le_refl _, ?_⟩
  rw [IsExs, IsExs, IsExs]
  exact ⟨⟨_, 0, v0, v1, v2, v3, v4, v5, v6, rfl, cell_of hb 0, cell_of hb 1, cell_of hb 2, cell_of hb 3, cell_of hb 4, cell_of hb 5, cell_of hb 6, IsEx.below (grown_below (World.grownBy_alloc w _ none)) _ _ h⟩,
    ⟨_, 0, u0, u1, u2, u3, u4, u5, u6, rfl, cell_of hb 7, cell_of hb 8, cell_of hb 9, cell_of hb 10, cell_of hb 11, cell_of hb 12, cell_of hb 13, IsEx.below (grown_below (World.grownBy_alloc w _ none)) _ _ h'⟩, trivial⟩

set_option maxHeartbeats 2000000 in
theorem lawTy (k : Int) (A : Option Addr) (n c : Nat) (w : World) : Calls Tryz.prog 12 #[.int .i64 k, .slice A n c] w fun e w' => e = .returned (.agg #[.int .i64 k, .string ⟨#[]⟩, .slice none 0 0, .slice none 0 0, .slice A n c]) ∧ Below w.heap.size w w' := by
  go_enter Tryz.func12, Tryz.ntmps12
  go_wp2
  refine bodyPost_ret (v := .agg #[.int .i64 k, .string ⟨#[]⟩, .slice none 0 0, .slice none 0 0, .slice A n c]) (by simp [results, Tryz.results12, go_sem]) rfl ⟨rfl, ?_⟩
  exact (Below.refl _ _).alloc (Nat.le_refl _) _
set_option maxHeartbeats 2000000 in
theorem lawNamed (s : ByteArray) (w : World) : Calls Tryz.prog 13 #[.string s] w fun e w' => e = .returned (.agg #[.int .i64 4, .string s, .slice none 0 0, .slice none 0 0, .slice none 0 0]) ∧ Below w.heap.size w w' := by
  go_enter Tryz.func13, Tryz.ntmps13
  go_wp2
  refine bodyPost_ret (v := .agg #[.int .i64 4, .string s, .slice none 0 0, .slice none 0 0, .slice none 0 0]) (by simp [results, Tryz.results13, go_sem]) rfl ⟨rfl, ?_⟩
  exact (Below.refl _ _).alloc (Nat.le_refl _) _
set_option maxHeartbeats 2000000 in
theorem lawNum (n : Int) (w : World) : Calls Tryz.prog 22 #[.int .i64 n] w fun e w' => e = .returned (.agg #[.int .i64 0, .int .i64 1, .int .i64 n, .string ⟨#[]⟩, .slice none 0 0, .slice none 0 0, .slice none 0 0]) ∧ Below w.heap.size w w' := by
  go_enter Tryz.func22, Tryz.ntmps22
  go_wp2
  refine bodyPost_ret (v := .agg #[.int .i64 0, .int .i64 1, .int .i64 n, .string ⟨#[]⟩, .slice none 0 0, .slice none 0 0, .slice none 0 0]) (by simp [results, Tryz.results22, go_sem]) rfl ⟨rfl, ?_⟩
  exact (Below.refl _ _).alloc (Nat.le_refl _) _
set_option maxHeartbeats 2000000 in
theorem lawVariable (s : ByteArray) (w : World) : Calls Tryz.prog 19 #[.string s] w fun e w' => e = .returned (.agg #[.int .i64 0, .int .i64 4, .int .i64 0, .string s, .slice none 0 0, .slice none 0 0, .slice none 0 0]) ∧ Below w.heap.size w w' := by
  go_enter Tryz.func19, Tryz.ntmps19
  go_wp2
  refine bodyPost_ret (v := .agg #[.int .i64 0, .int .i64 4, .int .i64 0, .string s, .slice none 0 0, .slice none 0 0, .slice none 0 0]) (by simp [results, Tryz.results19, go_sem]) rfl ⟨rfl, ?_⟩
  exact (Below.refl _ _).alloc (Nat.le_refl _) _

end Go.Proofs.YtdncljdfmdgdaaaGreatDoor

namespace Go.Proofs.YtdncljdfmdgdaaaGreatDoor
open Go.RowKit Go.Shelf
set_option linter.unusedSimpArgs false
set_option linter.unusedVariables false

theorem ownNew (w : World) (base : Nat) (c : UInt8) (hb : base ≤ w.heap.size) : OwnB (w.alloc (.cells #[.int .u8 (c.toNat : Int)] 5)) base (.slice (some ⟨w.heap.size, 0, none⟩) 1 1) [c] :=
  ⟨rfl, .inr ⟨w.heap.size, 1, #[.int .u8 (c.toNat : Int)], rfl, hb, heap_alloc_new w _, Nat.le_refl _, by unfold maxLen; omega, rfl, rfl⟩⟩

theorem LW.trans {w W X : World} (h : LW w W) (h' : LW W X) : LW w X := ⟨h.b.trans (h'.b.mono h.b.size), h'.g, h'.n⟩
theorem LW.self {w W : World} (h : LW w W) : LW W W := LW.refl h.g h.n
/-- A text that is cut without a fault. -/
theorem lwTokensOk {w W : World} (h : LW w W) (s : ByteArray) (hs : s.size ≤ 140737488351232) {ts : List Lx.Tok} (hT : Lx.toks s.data.toList = (ts, none)) :
    Calls Tryz.prog 47 #[.string s] W fun e W' => ∃ v, e = .returned (.tuple #[v, .nilIface]) ∧ LW w W' ∧ ToksIn W' v ts := by
  refine (lwTokens h s hs).mono ?_
  rw [hT]
  rintro e W' ⟨h1, h2, h3, v, rfl, hr⟩
  exact ⟨v, rfl, h1, row_toks (w' := W') hr⟩
/-- .. with a fault. -/
theorem lwTokensBad {w W : World} (h : LW w W) (s : ByteArray) (hs : s.size ≤ 140737488351232) {ts : List Lx.Tok} {y x : Nat} (hT : Lx.toks s.data.toList = (ts, some (y, x))) :
    Calls Tryz.prog 47 #[.string s] W fun e W' => ∃ g, e = .returned (.tuple #[.slice none 0 0, .iface 130 (.pointer (some ⟨g, 0, none⟩))]) ∧ LW w W' ∧ IsRef W' g x y := by
  refine (lwTokens h s hs).mono ?_
  rw [hT]
  rintro e W' ⟨h1, h2, h3, g, rfl, hr, _⟩
  exact ⟨g, rfl, h1, hr⟩

end Go.Proofs.YtdncljdfmdgdaaaGreatDoor

namespace Go.Proofs.YtdncljdfmdgdaaaGreatDoor
open Go.RowKit Go.Shelf
set_option linter.unusedSimpArgs false
set_option linter.unusedVariables false

/-- What is asked of SyntaxRuns. -/
def RunsOk : Prop := ∀ (w0 : World), GL w0 → NG ≤ w0.heap.size → Calls Tryz.prog 3 #[] w0 fun e w' => e = .returned (.bool true) ∧ LW w0 w'
theorem RunsOk.at (h : RunsOk) {w X : World} (hX : LW w X) : Calls Tryz.prog 3 #[] X fun e w' => e = .returned (.bool true) ∧ LW w w' :=
  (h X hX.g hX.n).mono fun e w' ⟨h1, h2⟩ => ⟨h1, hX.go h2.b⟩

/-- The cells of a type's box. -/
def boxT (a : Sx.Ty) (A1 : Option Addr) (c1 : Nat) (A2 : Option Addr) (c2 : Nat) (A3 : Option Addr) (c3 : Nat) : Array Value :=
  #[.int .i64 a.kind, .string ⟨a.name.toArray⟩, .slice A1 a.names.length c1, .slice A2 a.embeds.length c2, .slice A3 a.parts.length c3]
/-- Two boxes, the first ones that the law has made. -/
structure TwoSt (w : World) (c0 c1 : Array Value) (X : World) : Prop where
  lw : LW w X
  k0 : X.heap[w.heap.size]? = some (.cells c0 26 (0, 0))
  k1 : X.heap[w.heap.size + 1]? = some (.cells c1 26 (0, 0))
theorem TwoSt.go {w X X' : World} {c0 c1 : Array Value} (h : TwoSt w c0 c1 X) (hb : Below X.heap.size X X') : TwoSt w c0 c1 X' :=
  ⟨h.lw.go hb, (hb.block _ (lt_of_block h.k0)).trans h.k0, (hb.block _ (lt_of_block h.k1)).trans h.k1⟩
theorem TwoSt.lt {w X : World} {c0 c1 : Array Value} (h : TwoSt w c0 c1 X) : w.heap.size < X.heap.size ∧ w.heap.size + 1 < X.heap.size := ⟨lt_of_block h.k0, lt_of_block h.k1⟩
theorem TwoSt.first {w : World} (hG : GL w) (hN : NG ≤ w.heap.size) (c0 c1 : Array Value) : TwoSt w c0 c1 ((w.alloc (.cells c0 26)).alloc (.cells c1 26)) := by
  refine ⟨((LW.refl hG hN).alloc _).alloc _, heap_alloc (heap_alloc_new w _) _, ?_⟩
  have := heap_alloc_new (w.alloc (.cells c0 26)) (.cells c1 26)
  rw [show (w.alloc (.cells c0 26)).heap.size = w.heap.size + 1 by simp] at this
  exact this
theorem ten_cells {w X : World} {a b : Sx.Ty} {A1 A2 A3 B1 B2 B3 : Option Addr} {c1 c2 c3 d1 d2 d3 L : Nat} (h : TwoSt w (boxT a A1 c1 A2 c2 A3 c3) (boxT b B1 d1 B2 d2 B3 d3) X) (hL : w.heap.size = L) :
    (X.cell? ⟨L, 0, none⟩ = some (.int .i64 a.kind) ∧ X.cell? ⟨L, 1, none⟩ = some (.string ⟨a.name.toArray⟩) ∧ X.cell? ⟨L, 2, none⟩ = some (.slice A1 a.names.length c1) ∧ X.cell? ⟨L, 3, none⟩ = some (.slice A2 a.embeds.length c2) ∧ X.cell? ⟨L, 4, none⟩ = some (.slice A3 a.parts.length c3)) ∧
    (X.cell? ⟨L + 1, 0, none⟩ = some (.int .i64 b.kind) ∧ X.cell? ⟨L + 1, 1, none⟩ = some (.string ⟨b.name.toArray⟩) ∧ X.cell? ⟨L + 1, 2, none⟩ = some (.slice B1 b.names.length d1) ∧ X.cell? ⟨L + 1, 3, none⟩ = some (.slice B2 b.embeds.length d2) ∧ X.cell? ⟨L + 1, 4, none⟩ = some (.slice B3 b.parts.length d3)) ∧
    L < X.heap.size ∧ L + 1 < X.heap.size := by
  subst hL
  exact ⟨five_cells h.k0, five_cells h.k1, h.lt.1, h.lt.2⟩

end Go.Proofs.YtdncljdfmdgdaaaGreatDoor

namespace Go.Proofs.YtdncljdfmdgdaaaGreatDoor
set_option linter.unusedVariables false
mutual
/-- coilkeep's size of statements, with no limit. -/
def Sx.sizeS : Sx.St → Nat
  | .mk _ _ nm t x b e => 1 + nm.length + Sx.sizeL t + Sx.sizeXs x + Sx.sizeSs b + Sx.sizeSs e
def Sx.sizeSs : List Sx.St → Nat
  | [] => 0
  | s :: l => Sx.sizeS s + Sx.sizeSs l
end
theorem Sx.sizeS_parts (s : Sx.St) : Sx.sizeS s = 1 + s.name.length + Sx.sizeL s.t + Sx.sizeXs s.x + Sx.sizeSs s.body + Sx.sizeSs s.els := by cases s; rw [Sx.sizeS]; rfl
theorem Sx.sizeS_pos (s : Sx.St) : 1 ≤ Sx.sizeS s := by rw [Sx.sizeS_parts]; omega
theorem Sx.sizeS_mem : ∀ {l : List Sx.St} {x : Sx.St}, x ∈ l → Sx.sizeS x ≤ Sx.sizeSs l
  | u :: l, t, h => by
    rw [Sx.sizeSs]
    rcases List.mem_cons.1 h with rfl | h
    · omega
    · have := Sx.sizeS_mem h; omega
theorem Sx.length_sizeSs : ∀ (l : List Sx.St), l.length ≤ Sx.sizeSs l
  | [] => by simp [Sx.sizeSs]
  | t :: l => by
    rw [Sx.sizeSs, List.length_cons]
    have := Sx.length_sizeSs l
    have := Sx.sizeS_pos t
    omega
end Go.Proofs.YtdncljdfmdgdaaaGreatDoor

namespace Go.Proofs.YtdncljdfmdgdaaaGreatDoor
set_option linter.unusedVariables false
mutual
/-- What any memory holds. -/
def Sx.fitsX : Sx.Ex → Prop
  | .mk _ _ _ s t ns ps => s.length ≤ 140737488351232 ∧ ns.length ≤ 140737488351232 ∧ (∀ s ∈ ns, s.length ≤ 140737488351232) ∧ t.length ≤ 140737488351232 ∧ Sx.fitsL t ∧ ps.length ≤ 140737488351232 ∧ Sx.fitsXs ps
def Sx.fitsXs : List Sx.Ex → Prop
  | [] => True
  | t :: l => Sx.fitsX t ∧ Sx.fitsXs l
end
theorem Sx.fitsXs_mem : ∀ {l : List Sx.Ex} {t : Sx.Ex}, Sx.fitsXs l → t ∈ l → Sx.fitsX t
  | u :: l, t, h, hm => by
    rw [Sx.fitsXs] at h
    rcases List.mem_cons.1 hm with rfl | hm
    · exact h.1
    · exact Sx.fitsXs_mem h.2 hm
theorem Sx.fitsXs_of : ∀ {l : List Sx.Ex}, (∀ t ∈ l, Sx.fitsX t) → Sx.fitsXs l
  | [], h => by rw [Sx.fitsXs]; trivial
  | t :: l, h => by
    rw [Sx.fitsXs]
    exact ⟨h t List.mem_cons_self, Sx.fitsXs_of fun u hu => h u (List.mem_cons_of_mem _ hu)⟩
theorem Sx.fitsX_parts {t : Sx.Ex} (h : Sx.fitsX t) : t.s.length ≤ 140737488351232 ∧ t.names.length ≤ 140737488351232 ∧ (∀ s ∈ t.names, s.length ≤ 140737488351232) ∧ t.t.length ≤ 140737488351232 ∧ (∀ p ∈ t.t, Sx.fits p) ∧ t.parts.length ≤ 140737488351232 ∧ ∀ p ∈ t.parts, Sx.fitsX p := by
  cases t
  rw [Sx.fitsX] at h
  obtain ⟨a, b, c, d, e, f, g⟩ := h
  exact ⟨a, b, c, d, fun p hp => Sx.fitsL_mem e hp, f, fun p hp => Sx.fitsXs_mem g hp⟩
mutual
def Sx.fitsS : Sx.St → Prop
  | .mk _ _ nm t x b e => nm.length ≤ 140737488351232 ∧ t.length ≤ 140737488351232 ∧ Sx.fitsL t ∧ x.length ≤ 140737488351232 ∧ Sx.fitsXs x ∧ (b.length ≤ 140737488351232 ∧ Sx.fitsSs b) ∧ (e.length ≤ 140737488351232 ∧ Sx.fitsSs e)
def Sx.fitsSs : List Sx.St → Prop
  | [] => True
  | t :: l => Sx.fitsS t ∧ Sx.fitsSs l
end
theorem Sx.fitsSs_mem : ∀ {l : List Sx.St} {t : Sx.St}, Sx.fitsSs l → t ∈ l → Sx.fitsS t
  | u :: l, t, h, hm => by
    rw [Sx.fitsSs] at h
    rcases List.mem_cons.1 hm with rfl | hm
    · exact h.1
    · exact Sx.fitsSs_mem h.2 hm
theorem Sx.fitsSs_of : ∀ {l : List Sx.St}, (∀ t ∈ l, Sx.fitsS t) → Sx.fitsSs l
  | [], h => by rw [Sx.fitsSs]; trivial
  | t :: l, h => by
    rw [Sx.fitsSs]
    exact ⟨h t List.mem_cons_self, Sx.fitsSs_of fun u hu => h u (List.mem_cons_of_mem _ hu)⟩
theorem Sx.fitsS_parts {t : Sx.St} (h : Sx.fitsS t) : t.name.length ≤ 140737488351232 ∧ t.t.length ≤ 140737488351232 ∧ (∀ p ∈ t.t, Sx.fits p) ∧ t.x.length ≤ 140737488351232 ∧ (∀ p ∈ t.x, Sx.fitsX p) ∧ (t.body.length ≤ 140737488351232 ∧ Sx.fitsSs t.body) ∧ (t.els.length ≤ 140737488351232 ∧ Sx.fitsSs t.els) := by
  cases t
  rw [Sx.fitsS] at h
  obtain ⟨a, b, c, d, e, f, g⟩ := h
  exact ⟨a, b, fun p hp => Sx.fitsL_mem c hp, d, fun p hp => Sx.fitsXs_mem e hp, f, g⟩
theorem Sx.sizeXs_append : ∀ (l m : List Sx.Ex), Sx.sizeXs (l ++ m) = Sx.sizeXs l + Sx.sizeXs m
  | [], m => by simp [Sx.sizeXs]
  | t :: l, m => by rw [List.cons_append, Sx.sizeXs, Sx.sizeXs, Sx.sizeXs_append l m]; omega
theorem Sx.sizeX_take {l : List Sx.Ex} {m : Nat} (h : m < l.length) : Sx.sizeXs (l.take (m + 1)) = Sx.sizeXs (l.take m) + Sx.sizeX l[m] := by
  rw [List.take_succ_eq_append_getElem h, Sx.sizeXs_append]
  simp [Sx.sizeXs]
theorem Sx.sizeSs_append : ∀ (l m : List Sx.St), Sx.sizeSs (l ++ m) = Sx.sizeSs l + Sx.sizeSs m
  | [], m => by simp [Sx.sizeSs]
  | t :: l, m => by rw [List.cons_append, Sx.sizeSs, Sx.sizeSs, Sx.sizeSs_append l m]; omega
theorem Sx.sizeS_take {l : List Sx.St} {m : Nat} (h : m < l.length) : Sx.sizeSs (l.take (m + 1)) = Sx.sizeSs (l.take m) + Sx.sizeS l[m] := by
  rw [List.take_succ_eq_append_getElem h, Sx.sizeSs_append]
  simp [Sx.sizeSs]
end Go.Proofs.YtdncljdfmdgdaaaGreatDoor
