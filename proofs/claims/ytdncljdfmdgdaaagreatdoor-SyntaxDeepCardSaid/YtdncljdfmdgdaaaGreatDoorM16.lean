/-
  The walk of expr: a call, an application; all kinds.
  Plain: the shape that a kind of expressions asks for, by the program's table.
-/
import Derived.Test.YtdncljdfmdgdaaaGreatDoorM15
import Derived.Test.YtdncljdfmdgdaaaGreatDoorM11
namespace Go.Proofs.YtdncljdfmdgdaaaGreatDoor
open Go.RowKit Go.Shelf Go.WideMaps
set_option linter.unusedSimpArgs false
set_option linter.unusedVariables false

theorem Sx.sizeXs_tail (l : List Sx.Ex) : Sx.sizeXs l.tail ≤ Sx.sizeXs l := by
  cases l with
  | nil => exact Nat.le_refl _
  | cons x l => rw [List.tail_cons, Sx.sizeXs]; omega

set_option maxRecDepth 100000 in
set_option maxHeartbeats 8000000 in
theorem synExpr10 {W0 : World} {b : Nat} {x : Sx.Ex} (ih : ∀ p ∈ x.parts, ExprOk W0 b p) (hG : GS W0) (hN : NG ≤ W0.heap.size) (hkd : x.kind = 10) : ExprOk W0 b x := by
  intro v l w hr ht hz h hc
  obtain ⟨hsh, hrp⟩ := hr.shape
  have hsz := Sx.sizeX_parts x
  have hsl := Sx.textX_len x
  rw [Sx.expr_eq, hkd] at hc ⊢
  rw [hkd] at hsh
  simp only [Int.reduceEq, if_true, if_false, or_false, false_or, or_true, true_or, reduceIte, Nat.reduceEqDiff] at hc ⊢
  simp [Sx.shapeX] at hsh
  have hss0 := hsh.1
  have hpl : 1 ≤ x.parts.length := by have := hsh; omega
  have hlt0 : 0 < x.parts.length := by omega
  obtain ⟨At, ct, An, cn, Ap, cp, rfl, htt, hnn, hp, hn0, hn1⟩ := ht.agg
  rw [hkd]
  obtain ⟨g0, off0, At0, ct0, An0, cn0, Ap0, cp0, hA0, hty0, hc0⟩ := hp.spot 0 hlt0
  obtain ⟨p0, hpe0⟩ : ∃ p, x.parts[0]'hlt0 = p := ⟨_, rfl⟩
  have hmem0 : p0 ∈ x.parts := by rw [← hpe0]; exact List.getElem_mem hlt0
  rw [hpe0] at hc0 hty0
  have hz0 : Sx.sizeX p0 ≤ 1000000 := by have := Sx.sizeX_mem hmem0; omega
  have hlti0 : (0 : Int) < (x.parts.length : Int) := by omega
  have HC0 := Lib.hid hc0
  have HTY0 := Lib.hid hty0
  clear hc0 hty0
  subst hA0
  obtain ⟨V, hV⟩ : ∃ V, sliced (some ⟨g0, off0, none⟩) 1 x.parts.length cp 7 = V := ⟨_, rfl⟩
  have hrun : ∀ w, (Instr.slice 37 (.slice (some ⟨g0, off0, none⟩) x.parts.length cp) (some (.int .i64 1)) none none).run Tryz.prog w = .ok V w := fun w => by rw [runTailX _ _ _ _ (by omega), hV]
  have htl := hp.tail hlt0
  rw [hV] at htl
  have hlist := synList (b := b) (xs := x.parts.tail) (fun p hm => ih p (List.mem_of_mem_tail hm))
  have hszt : Sx.sizeXs x.parts.tail ≤ 1000000 := by have := Sx.sizeXs_tail x.parts; omega
  obtain ⟨qa, hqa⟩ : ∃ q, Sx.listed x.parts.tail = q := ⟨_, rfl⟩
  have hargs := Sx.args_tail hlt0
  rw [hqa] at hargs
  have hfirst := Sx.first_head 7 hlt0
  rw [hpe0] at hfirst
  obtain ⟨q0, hq0⟩ : ∃ q, Sx.part 7 p0 = q := ⟨_, rfl⟩
  rw [hq0] at hfirst
  rw [hfirst, hargs] at hc ⊢
  have hlen : l.length + (q0.length + 2 + qa.length) ≤ 900000000 := by simp at hc; omega
  have hss : x.s ≠ [] ∧ x.s.length ≤ 1000000000 := ⟨NM.ok.small _ hss0, by omega⟩
  have HA := Lib.hid (show ∀ u w, IsEx W0 u p0 → Wrote W0 b (l).length (l) w → Calls Tryz.prog 116 #[.pointer (some ⟨b, 0, none⟩), u, .int .i64 (7)] w fun e w' => e = .returned (.tuple #[]) ∧ Wrote W0 b (l ++ q0).length (l ++ q0) w' ∧ KeepW w w' from fun u w hu hw => by
    have := synPart (ih p0 hmem0) (7) (by omega) (hrp p0 hmem0).kind.1 (hrp p0 hmem0).kind.2 u (l) w (hrp p0 hmem0) hu hz0 hw (by rw [hq0]; (try simp); omega)
    rw [hq0] at this
    exact this)
  have HLI := Lib.hid (show ∀ w, Wrote W0 b (l ++ q0 ++ [[46], x.s]).length (l ++ q0 ++ [[46], x.s]) w → Calls Tryz.prog 117 #[.pointer (some ⟨b, 0, none⟩), V] w fun e w' => e = .returned (.tuple #[]) ∧ Wrote W0 b (l ++ q0 ++ [[46], x.s] ++ qa).length (l ++ q0 ++ [[46], x.s] ++ qa) w' ∧ KeepW w w' from fun w hw => by
    have := hlist V (l ++ q0 ++ [[46], x.s]) w (fun p hm => hrp p (List.mem_of_mem_tail hm)) htl hszt hw (by rw [hqa]; (try simp); omega)
    rw [hqa] at this
    exact this)
  have hb : (l ++ q0).length + 2 ≤ 1000000000 := by simp; omega
  have HSS := Lib.hid hss
  have hli : (1 : Int) ≤ (x.parts.length : Int) := by omega
  obtain ⟨L, hL⟩ : ∃ L, w.heap.size = L := ⟨_, rfl⟩
  obtain ⟨w2, hw2⟩ : ∃ w2, w.alloc (.cells #[.int .i64 x.pos, .int .i64 10, .int .i64 x.n, .string ⟨x.s.toArray⟩, .slice At x.t.length ct, .slice An x.names.length cn, .slice (some ⟨g0, off0, none⟩) x.parts.length cp] 39) = w2 := ⟨_, rfl⟩
  have hlv := Live.first h #[.int .i64 x.pos, .int .i64 10, .int .i64 x.n, .string ⟨x.s.toArray⟩, .slice At x.t.length ct, .slice An x.names.length cn, .slice (some ⟨g0, off0, none⟩) x.parts.length cp] 39 hw2
  rw [hL] at hlv
  have H2 := Lib.hid hlv
  clear hlv h
  clear hr ht hz hc hsh hrp hsz hsl htt hnn hp hn0 hn1 hkd ih hG hN hpe0 hmem0 hz0 hlt0 hss0 hpl hss hlen hq0 hfirst hqa hargs hszt hlist htl hV
  go_enter Tryz.func64, Tryz.ntmps64
  obtain ⟨x0, x1, x2, x3, x4, x5, x6⟩ := seven_cells H2.out.b1
  obtain ⟨hl1, hl2, hbl⟩ := H2.out.lt
  obtain ⟨dg, d0, d1, d2, d3, d4, d5, d6⟩ := HC0.out w2 H2.out.wr.below
  rw [Nat.zero_mul, Nat.add_zero] at d0 d1 d2 d3 d4 d5 d6
  go_upto_region 24 with (go_at_call 116; refine (HA.out _ w2 HTY0.out H2.out.wr).mono ?_; rintro e w3 ⟨rfl, hW3, hk3⟩)
  have H3 := Lib.hid (H2.out.go oEx oEx hW3 hk3)
  clear hW3 hk3
  clear x0 x1 x2 x3 x4 x5 x6 hl1 hl2 hbl d0 d1 d2 d3 d4 d5 d6 dg
  obtain ⟨x0, x1, x2, x3, x4, x5, x6⟩ := seven_cells H3.out.b1
  obtain ⟨hl1, hl2, hbl⟩ := H3.out.lt
  obtain ⟨dg, d0, d1, d2, d3, d4, d5, d6⟩ := HC0.out w3 H3.out.wr.below
  rw [Nat.zero_mul, Nat.add_zero] at d0 d1 d2 d3 d4 d5 d6
  go_upto_region 24 with fail
  have HD3 := Lib.hid H3.out.drew
  go_region_with (go_at_call 100; refine (HD3.out.lput2 [46] x.s ⟨by simp, by simp⟩ HSS.out hb).mono ?_; rintro e w4 ⟨rfl, hW4, hk4⟩)
  have H4 := Lib.hid (HD3.out.go oEx oEx hW4 hk4)
  clear hW4 hk4
  clear x0 x1 x2 x3 x4 x5 x6 hl1 hl2 hbl d0 d1 d2 d3 d4 d5 d6 dg
  obtain ⟨x0, x1, x2, x3, x4, x5, x6⟩ := seven_cells H4.out.b1
  obtain ⟨hl1, hl2, hbl⟩ := H4.out.lt
  obtain ⟨dg, d0, d1, d2, d3, d4, d5, d6⟩ := HC0.out w4 H4.out.wr.below
  rw [Nat.zero_mul, Nat.add_zero] at d0 d1 d2 d3 d4 d5 d6
  go_wp2_with (go_at_call 117; refine (HLI.out w4 H4.out.wr).mono ?_; rintro e w5 ⟨rfl, hW5, hk5⟩)
  have H5 := Lib.hid (H4.out.go oEx oEx hW5 hk5)
  clear hW5 hk5
  clear x0 x1 x2 x3 x4 x5 x6 hl1 hl2 hbl d0 d1 d2 d3 d4 d5 d6 dg
  go_end0
  refine ⟨rfl, ?_, H5.out.kp⟩
  have h9 := H5.out.wr
  simpa [List.append_assoc] using h9

set_option maxRecDepth 100000 in
set_option maxHeartbeats 8000000 in
theorem synExpr11 {W0 : World} {b : Nat} {x : Sx.Ex} (ih : ∀ p ∈ x.parts, ExprOk W0 b p) (hG : GS W0) (hN : NG ≤ W0.heap.size) (hkd : x.kind = 11) : ExprOk W0 b x := by
  intro v l w hr ht hz h hc
  obtain ⟨hsh, hrp⟩ := hr.shape
  have hsz := Sx.sizeX_parts x
  have hsl := Sx.textX_len x
  rw [Sx.expr_eq, hkd] at hc ⊢
  rw [hkd] at hsh
  simp only [Int.reduceEq, if_true, if_false, or_false, false_or, or_true, true_or, reduceIte, Nat.reduceEqDiff] at hc ⊢
  simp [Sx.shapeX] at hsh
  have hpl : 1 ≤ x.parts.length := by have := hsh; omega
  have hlt0 : 0 < x.parts.length := by omega
  obtain ⟨At, ct, An, cn, Ap, cp, rfl, htt, hnn, hp, hn0, hn1⟩ := ht.agg
  rw [hkd]
  obtain ⟨g0, off0, At0, ct0, An0, cn0, Ap0, cp0, hA0, hty0, hc0⟩ := hp.spot 0 hlt0
  obtain ⟨p0, hpe0⟩ : ∃ p, x.parts[0]'hlt0 = p := ⟨_, rfl⟩
  have hmem0 : p0 ∈ x.parts := by rw [← hpe0]; exact List.getElem_mem hlt0
  rw [hpe0] at hc0 hty0
  have hz0 : Sx.sizeX p0 ≤ 1000000 := by have := Sx.sizeX_mem hmem0; omega
  have hlti0 : (0 : Int) < (x.parts.length : Int) := by omega
  have HC0 := Lib.hid hc0
  have HTY0 := Lib.hid hty0
  clear hc0 hty0
  subst hA0
  obtain ⟨V, hV⟩ : ∃ V, sliced (some ⟨g0, off0, none⟩) 1 x.parts.length cp 7 = V := ⟨_, rfl⟩
  have hrun : ∀ w, (Instr.slice 37 (.slice (some ⟨g0, off0, none⟩) x.parts.length cp) (some (.int .i64 1)) none none).run Tryz.prog w = .ok V w := fun w => by rw [runTailX _ _ _ _ (by omega), hV]
  have htl := hp.tail hlt0
  rw [hV] at htl
  have hlist := synList (b := b) (xs := x.parts.tail) (fun p hm => ih p (List.mem_of_mem_tail hm))
  have hszt : Sx.sizeXs x.parts.tail ≤ 1000000 := by have := Sx.sizeXs_tail x.parts; omega
  obtain ⟨qa, hqa⟩ : ∃ q, Sx.listed x.parts.tail = q := ⟨_, rfl⟩
  have hargs := Sx.args_tail hlt0
  rw [hqa] at hargs
  have happ := Sx.applied_head hlt0
  rw [hpe0] at happ
  rw [hargs] at hc ⊢
  obtain ⟨kd0, hkd0⟩ : ∃ k, p0.kind = k := ⟨_, rfl⟩
  rw [hkd0] at happ
  have hli : (1 : Int) ≤ (x.parts.length : Int) := by omega
  by_cases h9 : kd0 = 9
  · have b9 : (kd0 == 9) = true := by rw [beq_iff_eq]; exact h9
    rw [if_pos h9] at happ
    obtain ⟨q0, hq0⟩ : ∃ q, Sx.within p0 = q := ⟨_, rfl⟩
    rw [hq0] at happ
    rw [happ] at hc ⊢
    have hlen : l.length + (q0.length + qa.length) ≤ 900000000 := by simp at hc; omega
    have HA := Lib.hid (show ∀ u w, IsEx W0 u p0 → Wrote W0 b l.length l w → Calls Tryz.prog 118 #[.pointer (some ⟨b, 0, none⟩), u] w fun e w' => e = .returned (.tuple #[]) ∧ Wrote W0 b (l ++ q0).length (l ++ q0) w' ∧ KeepW w w' from fun u w hu hw => by
      have := synWithin (ih p0 hmem0) u l w (hrp p0 hmem0) hu hz0 hw (by rw [hq0]; omega)
      rw [hq0] at this
      exact this)
    have HLI := Lib.hid (show ∀ w, Wrote W0 b (l ++ q0).length (l ++ q0) w → Calls Tryz.prog 117 #[.pointer (some ⟨b, 0, none⟩), V] w fun e w' => e = .returned (.tuple #[]) ∧ Wrote W0 b (l ++ q0 ++ qa).length (l ++ q0 ++ qa) w' ∧ KeepW w w' from fun w hw => by
      have := hlist V (l ++ q0) w (fun p hm => hrp p (List.mem_of_mem_tail hm)) htl hszt hw (by rw [hqa]; (try simp); omega)
      rw [hqa] at this
      exact this)
    rw [hkd0] at HC0 HTY0
    obtain ⟨L, hL⟩ : ∃ L, w.heap.size = L := ⟨_, rfl⟩
    obtain ⟨w2, hw2⟩ : ∃ w2, w.alloc (.cells #[.int .i64 x.pos, .int .i64 11, .int .i64 x.n, .string ⟨x.s.toArray⟩, .slice At x.t.length ct, .slice An x.names.length cn, .slice (some ⟨g0, off0, none⟩) x.parts.length cp] 39) = w2 := ⟨_, rfl⟩
    have hlv := Live.first h #[.int .i64 x.pos, .int .i64 11, .int .i64 x.n, .string ⟨x.s.toArray⟩, .slice At x.t.length ct, .slice An x.names.length cn, .slice (some ⟨g0, off0, none⟩) x.parts.length cp] 39 hw2
    rw [hL] at hlv
    have H2 := Lib.hid hlv
    clear hlv h
    clear hr ht hz hc hsh hrp hsz hsl htt hnn hp hn0 hn1 hkd ih hG hN hpe0 hmem0 hz0 hlt0 hpl hlen hq0 happ hqa hargs hszt hlist htl hV hkd0 h9
    go_enter Tryz.func64, Tryz.ntmps64
    obtain ⟨x0, x1, x2, x3, x4, x5, x6⟩ := seven_cells H2.out.b1
    obtain ⟨hl1, hl2, hbl⟩ := H2.out.lt
    obtain ⟨dg, d0, d1, d2, d3, d4, d5, d6⟩ := HC0.out w2 H2.out.wr.below
    rw [Nat.zero_mul, Nat.add_zero] at d0 d1 d2 d3 d4 d5 d6
    go_upto_region 30 with (go_at_call 118; refine (HA.out _ w2 HTY0.out H2.out.wr).mono ?_; rintro e w3 ⟨rfl, hW3, hk3⟩)
    have H3 := Lib.hid (H2.out.go oEx oEx hW3 hk3)
    clear hW3 hk3
    clear x0 x1 x2 x3 x4 x5 x6 hl1 hl2 hbl d0 d1 d2 d3 d4 d5 d6 dg
    obtain ⟨x0, x1, x2, x3, x4, x5, x6⟩ := seven_cells H3.out.b1
    obtain ⟨hl1, hl2, hbl⟩ := H3.out.lt
    obtain ⟨dg, d0, d1, d2, d3, d4, d5, d6⟩ := HC0.out w3 H3.out.wr.below
    rw [Nat.zero_mul, Nat.add_zero] at d0 d1 d2 d3 d4 d5 d6
    go_wp2_with (go_at_call 117; refine (HLI.out w3 H3.out.wr).mono ?_; rintro e w4 ⟨rfl, hW4, hk4⟩)
    have H4 := Lib.hid (H3.out.go oEx oEx hW4 hk4)
    clear hW4 hk4
    clear x0 x1 x2 x3 x4 x5 x6 hl1 hl2 hbl d0 d1 d2 d3 d4 d5 d6 dg
    go_end0
    refine ⟨rfl, ?_, H4.out.kp⟩
    have h9 := H4.out.wr
    simpa [List.append_assoc] using h9
  · have b9 : (kd0 == 9) = false := by rw [beq_eq_false_iff_ne]; exact h9
    rw [if_neg h9] at happ
    obtain ⟨q0, hq0⟩ : ∃ q, Sx.part 7 p0 = q := ⟨_, rfl⟩
    rw [hq0] at happ
    rw [happ] at hc ⊢
    have hlen : l.length + (q0.length + qa.length) ≤ 900000000 := by simp at hc; omega
    have HA := Lib.hid (show ∀ u w, IsEx W0 u p0 → Wrote W0 b (l).length (l) w → Calls Tryz.prog 116 #[.pointer (some ⟨b, 0, none⟩), u, .int .i64 (7)] w fun e w' => e = .returned (.tuple #[]) ∧ Wrote W0 b (l ++ q0).length (l ++ q0) w' ∧ KeepW w w' from fun u w hu hw => by
      have := synPart (ih p0 hmem0) (7) (by omega) (hrp p0 hmem0).kind.1 (hrp p0 hmem0).kind.2 u (l) w (hrp p0 hmem0) hu hz0 hw (by rw [hq0]; (try simp); omega)
      rw [hq0] at this
      exact this)
    have HLI := Lib.hid (show ∀ w, Wrote W0 b (l ++ q0).length (l ++ q0) w → Calls Tryz.prog 117 #[.pointer (some ⟨b, 0, none⟩), V] w fun e w' => e = .returned (.tuple #[]) ∧ Wrote W0 b (l ++ q0 ++ qa).length (l ++ q0 ++ qa) w' ∧ KeepW w w' from fun w hw => by
      have := hlist V (l ++ q0) w (fun p hm => hrp p (List.mem_of_mem_tail hm)) htl hszt hw (by rw [hqa]; (try simp); omega)
      rw [hqa] at this
      exact this)
    rw [hkd0] at HC0 HTY0
    obtain ⟨L, hL⟩ : ∃ L, w.heap.size = L := ⟨_, rfl⟩
    obtain ⟨w2, hw2⟩ : ∃ w2, w.alloc (.cells #[.int .i64 x.pos, .int .i64 11, .int .i64 x.n, .string ⟨x.s.toArray⟩, .slice At x.t.length ct, .slice An x.names.length cn, .slice (some ⟨g0, off0, none⟩) x.parts.length cp] 39) = w2 := ⟨_, rfl⟩
    have hlv := Live.first h #[.int .i64 x.pos, .int .i64 11, .int .i64 x.n, .string ⟨x.s.toArray⟩, .slice At x.t.length ct, .slice An x.names.length cn, .slice (some ⟨g0, off0, none⟩) x.parts.length cp] 39 hw2
    rw [hL] at hlv
    have H2 := Lib.hid hlv
    clear hlv h
    clear hr ht hz hc hsh hrp hsz hsl htt hnn hp hn0 hn1 hkd ih hG hN hpe0 hmem0 hz0 hlt0 hpl hlen hq0 happ hqa hargs hszt hlist htl hV hkd0 h9
    go_enter Tryz.func64, Tryz.ntmps64
    obtain ⟨x0, x1, x2, x3, x4, x5, x6⟩ := seven_cells H2.out.b1
    obtain ⟨hl1, hl2, hbl⟩ := H2.out.lt
    obtain ⟨dg, d0, d1, d2, d3, d4, d5, d6⟩ := HC0.out w2 H2.out.wr.below
    rw [Nat.zero_mul, Nat.add_zero] at d0 d1 d2 d3 d4 d5 d6
    go_upto_region 30 with (go_at_call 116; refine (HA.out _ w2 HTY0.out H2.out.wr).mono ?_; rintro e w3 ⟨rfl, hW3, hk3⟩)
    have H3 := Lib.hid (H2.out.go oEx oEx hW3 hk3)
    clear hW3 hk3
    clear x0 x1 x2 x3 x4 x5 x6 hl1 hl2 hbl d0 d1 d2 d3 d4 d5 d6 dg
    obtain ⟨x0, x1, x2, x3, x4, x5, x6⟩ := seven_cells H3.out.b1
    obtain ⟨hl1, hl2, hbl⟩ := H3.out.lt
    obtain ⟨dg, d0, d1, d2, d3, d4, d5, d6⟩ := HC0.out w3 H3.out.wr.below
    rw [Nat.zero_mul, Nat.add_zero] at d0 d1 d2 d3 d4 d5 d6
    go_wp2_with (go_at_call 117; refine (HLI.out w3 H3.out.wr).mono ?_; rintro e w4 ⟨rfl, hW4, hk4⟩)
    have H4 := Lib.hid (H3.out.go oEx oEx hW4 hk4)
    clear hW4 hk4
    clear x0 x1 x2 x3 x4 x5 x6 hl1 hl2 hbl d0 d1 d2 d3 d4 d5 d6 dg
    go_end0
    refine ⟨rfl, ?_, H4.out.kp⟩
    have h9 := H4.out.wr
    simpa [List.append_assoc] using h9

theorem synExprAll {W0 : World} {b : Nat} (hG : GS W0) (hN : NG ≤ W0.heap.size) : ∀ (n : Nat) (x : Sx.Ex), Sx.sizeX x ≤ n → ExprOk W0 b x := by
  intro n
  induction n with
  | zero => intro x h; have := Sx.sizeX_pos x; omega
  | succ n ihn =>
    intro x hx
    have ih : ∀ p ∈ x.parts, ExprOk W0 b p := fun p hp => ihn p (by
      have := Sx.sizeX_mem hp
      have := Sx.sizeX_parts x
      omega)
    intro v l w hr ht hz h hc
    have hk := hr.kind
    have : x.kind = 1 ∨ x.kind = 2 ∨ x.kind = 3 ∨ x.kind = 4 ∨ x.kind = 5 ∨ x.kind = 6 ∨ x.kind = 7 ∨ x.kind = 8 ∨ x.kind = 9 ∨ x.kind = 10 ∨ x.kind = 11 ∨ x.kind = 12 ∨ x.kind = 13 ∨ x.kind = 14 ∨ 15 ≤ x.kind := by omega
    rcases this with h1 | h1 | h1 | h1 | h1 | h1 | h1 | h1 | h1 | h1 | h1 | h1 | h1 | h1 | h1
    · exact synExpr1 ih hG hN h1 v l w hr ht hz h hc
    · exact synExpr2 ih hG hN h1 v l w hr ht hz h hc
    · exact synExpr3 ih hG hN h1 v l w hr ht hz h hc
    · exact synExpr4 ih hG hN h1 v l w hr ht hz h hc
    · exact synExpr5 ih hG hN h1 v l w hr ht hz h hc
    · exact synExpr6 ih hG hN h1 v l w hr ht hz h hc
    · exact synExpr7 ih hG hN h1 v l w hr ht hz h hc
    · exact synExpr8 ih hG hN h1 v l w hr ht hz h hc
    · exact synExpr9 ih hG hN h1 v l w hr ht hz h hc
    · exact synExpr10 ih hG hN h1 v l w hr ht hz h hc
    · exact synExpr11 ih hG hN h1 v l w hr ht hz h hc
    · exact synExpr12 ih hG hN h1 v l w hr ht hz h hc
    · exact synExpr13 ih hG hN h1 v l w hr ht hz h hc
    · exact synExpr14 ih hG hN h1 v l w hr ht hz h hc
    · exact synExpr15 ih h1 v l w hr ht hz h hc

end Go.Proofs.YtdncljdfmdgdaaaGreatDoor

namespace Go.Proofs.YtdncljdfmdgdaaaGreatDoor
set_option linter.unusedSimpArgs false
set_option linter.unusedVariables false

structure Sx.Sh where
  s : Int
  n : Bool
  t : Bool
  names : Bool
  least : Int
  most : Int
def Sx.Sh.v (h : Sx.Sh) : Value := .agg #[.int .i64 h.s, .bool h.n, .bool h.t, .bool h.names, .int .i64 h.least, .int .i64 h.most]
def Sx.shapeOf (k : Int) : Sx.Sh × Bool :=
  if k = 1 ∨ k = 3 then (⟨0, true, false, false, 0, 0⟩, true)
  else if k = 2 then (⟨-1, false, false, false, 0, 0⟩, true)
  else if k = 4 then (⟨1, false, false, false, 0, 0⟩, true)
  else if k = 5 then (⟨0, false, false, false, 0, 0⟩, true)
  else if k = 6 then (⟨0, false, true, false, 0, 0⟩, true)
  else if k = 7 ∨ k = 8 then (⟨2, false, false, true, 0, 1073741824⟩, true)
  else if k = 9 then (⟨1, false, false, false, 1, 1⟩, true)
  else if k = 10 then (⟨1, false, false, false, 1, 1073741824⟩, true)
  else if k = 11 then (⟨0, false, false, false, 1, 1073741824⟩, true)
  else if k = 12 then (⟨0, false, true, false, 1, 1⟩, true)
  else if k = 13 ∨ k = 14 then (⟨0, false, false, false, 1, 1⟩, true)
  else if 15 ≤ k ∧ k ≤ 21 then (⟨0, false, false, false, 2, 2⟩, true)
  else (⟨0, false, false, false, 0, 0⟩, false)
def Sx.rightText (h : Sx.Sh) (s : Lx.Bytes) : Bool := if h.s < 0 then NM.said s else if h.s = 0 then s.isEmpty else isTok h.s s
/-- The tests of rightExpr. -/
def Sx.b2 (ok d0 rt hn nz nn k3 n1 : Bool) : Bool := !ok || (d0 || (!rt || ((!hn && nz) || (nn || (k3 && n1)))))
def Sx.b4 (ht t1 t0 rt : Bool) : Bool := (ht != t1) || ((!ht && t0) || (ht && !rt))
def Sx.b7 (hn nm ul n0 ls ms : Bool) : Bool := (hn && (nm || !ul)) || ((!hn && n0) || (ls || ms))
/-- Is the type that stands first right? -/
def Sx.right0 (t : List Sx.Ty) : Bool := match t with | [] => true | p :: _ => Sx.rightT NM 64 p
def Sx.good (k n : Int) (s : Lx.Bytes) (t : List Sx.Ty) (ns : List Lx.Bytes) (m : Nat) : Bool :=
  let h := Sx.shapeOf k
  !Sx.b2 h.2 false (Sx.rightText h.1 s) h.1.n (n != 0) (decide (n < 0)) (k == 3) (decide (1 < n)) &&
  (!Sx.b4 h.1.t (t.length == 1) (decide (0 < t.length)) (Sx.right0 t) &&
   !Sx.b7 h.1.names (m != ns.length) (Sx.apart NM ns) (decide (0 < ns.length)) (decide ((m : Int) < h.1.least)) (decide (h.1.most < (m : Int))))
theorem Sx.rts1 {t : List Sx.Ty} (h : t.length = 1) : Sx.rightTs NM 64 t = Sx.right0 t := by
  match t, h with
  | [p], _ => simp [Sx.rightTs, Sx.right0]

theorem Sx.good_none {k n : Int} {s : Lx.Bytes} {t : List Sx.Ty} {ns : List Lx.Bytes} {m : Nat} (hk : ¬ (1 ≤ k ∧ k ≤ 21)) : Sx.shapeX NM k n s t ns m = Sx.good k n s t ns m := by
  have h1 : Sx.shapeX NM k n s t ns m = false := by unfold Sx.shapeX; rw [decide_eq_false hk]; rfl
  have h2 : (Sx.shapeOf k).2 = false := by
    unfold Sx.shapeOf
    rw [if_neg (by omega), if_neg (by omega), if_neg (by omega), if_neg (by omega), if_neg (by omega), if_neg (by omega), if_neg (by omega), if_neg (by omega), if_neg (by omega), if_neg (by omega), if_neg (by omega), if_neg (by omega)]
  rw [h1]
  unfold Sx.good
  simp only [h2]
  simp [Sx.b2]
set_option maxHeartbeats 2000000 in
theorem Sx.good_eq {k n : Int} {s : Lx.Bytes} {t : List Sx.Ty} {ns : List Lx.Bytes} {m : Nat} (hm : m ≤ 1000000) : Sx.shapeX NM k n s t ns m = Sx.good k n s t ns m := by
  by_cases hk : 1 ≤ k ∧ k ≤ 21
  · have hcs : k = 1 ∨ k = 2 ∨ k = 3 ∨ k = 4 ∨ k = 5 ∨ k = 6 ∨ k = 7 ∨ k = 8 ∨ k = 9 ∨ k = 10 ∨ k = 11 ∨ k = 12 ∨ k = 13 ∨ k = 14 ∨ k = 15 ∨ k = 16 ∨ k = 17 ∨ k = 18 ∨ k = 19 ∨ k = 20 ∨ k = 21 := by omega
    clear hk
    have ht1 := fun h : t.length = 1 => Sx.rts1 (t := t) h
    have hmi : (m : Int) ≤ 1000000 := by omega
    rw [Bool.eq_iff_iff]
    rcases t with _ | ⟨p, _ | ⟨q, r⟩⟩
    all_goals
      rcases ns with _ | ⟨a, ns⟩
      all_goals
        rcases hcs with rfl | rfl | rfl | rfl | rfl | rfl | rfl | rfl | rfl | rfl | rfl | rfl | rfl | rfl | rfl | rfl | rfl | rfl | rfl | rfl | rfl
        all_goals
          simp [Sx.shapeX, Sx.good, Sx.shapeOf, Sx.b2, Sx.b4, Sx.b7, Sx.rightText, NM, Sx.rightTs, Sx.right0, Sx.apart]
    all_goals
      constructor
      all_goals
        intro h
        (repeat' apply And.intro)
        all_goals first | omega | exact h.1 | exact h.1.1 | exact h.2.2.1 | exact h.2.2.2.1 | exact h.2.1 | exact h.2.1.2 | (simp_all; done) | (obtain ⟨⟨a1, a2⟩, a3⟩ := h; simp_all; omega)
  · exact Sx.good_none hk

end Go.Proofs.YtdncljdfmdgdaaaGreatDoor
