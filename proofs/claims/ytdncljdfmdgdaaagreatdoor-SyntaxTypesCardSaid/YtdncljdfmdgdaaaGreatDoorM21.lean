/-
  The walk of expr: the kinds with parts.
-/
/-
 The walk of expr: the kinds with parts.
 The walk of expr: a call, an application; all kinds.
 The walk of syntax.Expr.
-/
import Derived.Test.YtdncljdfmdgdaaaGreatDoorM20
import Derived.Test.YtdncljdfmdgdaaaGreatDoorM18
namespace Go.Proofs.YtdncljdfmdgdaaaGreatDoor
open Go.RowKit Go.Shelf Go.WideMaps
set_option linter.unusedSimpArgs false
set_option linter.unusedVariables false
set_option maxRecDepth 100000 in
set_option maxHeartbeats 8000000 in
theorem zmmZ {W0 : World} {b : Nat} {x : Sx.Ex} (ih : ∀ p ∈ x.parts, ExprOk W0 b p) (hG : GS W0) (hN : NG ≤ W0.heap.size) (hkd : x.kind = 3) : ExprOk W0 b x := by
 intro v l w hr ht hz h hc
 obtain ⟨hsh, hrp⟩ := hr.shape
 have hsz := Sx.sizeX_parts x
 have hsl := Sx.textX_len x
 rw [Sx.expr_eq, hkd] at hc ⊢
 rw [hkd] at hsh
 simp only [Int.reduceEq, if_true, if_false, or_false, false_or, or_true, true_or, reduceIte, Nat.reduceEqDiff] at hc ⊢
 simp [Sx.shapeX] at hsh
 have hn01 : x.n = 0 ∨ x.n = 1 := by omega
 obtain ⟨At, ct, An, cn, Ap, cp, rfl, htt, hnn, hp, hn0, hn1⟩ := ht.agg
 rw [hkd]
 have hb : l.length + 1 ≤ 1000000000 := by simp at hc; omega
 rcases hn01 with hn | hn
 ·rw [hn] at ht ⊢
  simp only [Int.reduceEq, reduceIte]
  obtain ⟨L, hL⟩ : ∃ L, w.heap.size = L := ⟨_, rfl⟩
  obtain ⟨w2, hw2⟩ : ∃ w2, w.alloc (.cells #[.int .i64 x.pos, .int .i64 3, .int .i64 0, .string ⟨x.s.toArray⟩, .slice At x.t.length ct, .slice An x.names.length cn, .slice Ap x.parts.length cp] 39) = w2 := ⟨_, rfl⟩
  have hlv := Live.first h #[.int .i64 x.pos, .int .i64 3, .int .i64 0, .string ⟨x.s.toArray⟩, .slice At x.t.length ct, .slice An x.names.length cn, .slice Ap x.parts.length cp] 39 hw2
  rw [hL] at hlv
  have H2 := Lib.hid hlv
  clear hlv h
  clear hr ht hz hc hsh hrp hsz hsl htt hnn hp hn0 hn1 hkd ih hG hN hn
  go_enter Tryz.func64, Tryz.ntmps64
  obtain ⟨x0, x1, x2, x3, x4, x5, x6⟩ := zbZ H2.out.b1
  obtain ⟨hl1, hl2, hbl⟩ := H2.out.lt
  go_upto_region 8 with fail
  obtain ⟨K, hK⟩ : ∃ K, w2.heap.size = K := ⟨_, rfl⟩
  obtain ⟨w3, hw3⟩ : ∃ w3, w2.alloc (.cells #[.string ⟨#[102, 97, 108, 115, 101]⟩, .string ⟨#[116, 114, 117, 101]⟩] 9) = w3 := ⟨_, rfl⟩
  have hblk : w3.heap[K]? = some (.cells #[.string ⟨#[102, 97, 108, 115, 101]⟩, .string ⟨#[116, 114, 117, 101]⟩] 9 (0, 0)) := by rw [← hw3, ← hK]; exact heap_alloc_new w2 _
  have hlv3 := (H2.out.grow (World.grownBy_alloc w2 (.cells #[.string ⟨#[102, 97, 108, 115, 101]⟩, .string ⟨#[116, 114, 117, 101]⟩] 9) none))
  rw [hw3] at hlv3
  have z0 := cell_of hblk 0
  have z1 := cell_of hblk 1
  have zl := zaZ hblk
  have HG2 := Lib.hid hlv3.drew
  have hlg := hlv3.lt
  obtain ⟨u0, u1, u2, u3, u4, u5, u6⟩ := zbZ hlv3.b1
  clear hblk hlv3
  go_region_with (go_at_call 100; refine (HG2.out.lput1 [102, 97, 108, 115, 101] ⟨by simp, by simp⟩ hb).mono ?_; rintro e w4 ⟨rfl, hW3, hk3⟩)
  all_goals
   have H3 := Lib.hid (HG2.out.go oEx oEx hW3 hk3)
   clear hW3 hk3
   clear x0 x1 x2 x3 x4 x5 x6 hl1 hl2 hbl
   go_end0
   refine ⟨rfl, ?_, H3.out.kp⟩
   have h9 := H3.out.wr
   simpa [List.append_assoc] using h9
 ·rw [hn] at ht ⊢
  simp only [Int.reduceEq, reduceIte]
  obtain ⟨L, hL⟩ : ∃ L, w.heap.size = L := ⟨_, rfl⟩
  obtain ⟨w2, hw2⟩ : ∃ w2, w.alloc (.cells #[.int .i64 x.pos, .int .i64 3, .int .i64 1, .string ⟨x.s.toArray⟩, .slice At x.t.length ct, .slice An x.names.length cn, .slice Ap x.parts.length cp] 39) = w2 := ⟨_, rfl⟩
  have hlv := Live.first h #[.int .i64 x.pos, .int .i64 3, .int .i64 1, .string ⟨x.s.toArray⟩, .slice At x.t.length ct, .slice An x.names.length cn, .slice Ap x.parts.length cp] 39 hw2
  rw [hL] at hlv
  have H2 := Lib.hid hlv
  clear hlv h
  clear hr ht hz hc hsh hrp hsz hsl htt hnn hp hn0 hn1 hkd ih hG hN hn
  go_enter Tryz.func64, Tryz.ntmps64
  obtain ⟨x0, x1, x2, x3, x4, x5, x6⟩ := zbZ H2.out.b1
  obtain ⟨hl1, hl2, hbl⟩ := H2.out.lt
  go_upto_region 8 with fail
  obtain ⟨K, hK⟩ : ∃ K, w2.heap.size = K := ⟨_, rfl⟩
  obtain ⟨w3, hw3⟩ : ∃ w3, w2.alloc (.cells #[.string ⟨#[102, 97, 108, 115, 101]⟩, .string ⟨#[116, 114, 117, 101]⟩] 9) = w3 := ⟨_, rfl⟩
  have hblk : w3.heap[K]? = some (.cells #[.string ⟨#[102, 97, 108, 115, 101]⟩, .string ⟨#[116, 114, 117, 101]⟩] 9 (0, 0)) := by rw [← hw3, ← hK]; exact heap_alloc_new w2 _
  have hlv3 := (H2.out.grow (World.grownBy_alloc w2 (.cells #[.string ⟨#[102, 97, 108, 115, 101]⟩, .string ⟨#[116, 114, 117, 101]⟩] 9) none))
  rw [hw3] at hlv3
  have z0 := cell_of hblk 0
  have z1 := cell_of hblk 1
  have zl := zaZ hblk
  have HG2 := Lib.hid hlv3.drew
  have hlg := hlv3.lt
  obtain ⟨u0, u1, u2, u3, u4, u5, u6⟩ := zbZ hlv3.b1
  clear hblk hlv3
  go_region_with (go_at_call 100; refine (HG2.out.lput1 [116, 114, 117, 101] ⟨by simp, by simp⟩ hb).mono ?_; rintro e w4 ⟨rfl, hW3, hk3⟩)
  all_goals
   have H3 := Lib.hid (HG2.out.go oEx oEx hW3 hk3)
   clear hW3 hk3
   clear x0 x1 x2 x3 x4 x5 x6 hl1 hl2 hbl
   go_end0
   refine ⟨rfl, ?_, H3.out.kp⟩
   have h9 := H3.out.wr
   simpa [List.append_assoc] using h9
set_option maxRecDepth 100000 in
set_option maxHeartbeats 8000000 in
theorem zmnZ {W0 : World} {b : Nat} {x : Sx.Ex} (ih : ∀ p ∈ x.parts, ExprOk W0 b p) (hG : GS W0) (hN : NG ≤ W0.heap.size) (hkd : x.kind = 6) : ExprOk W0 b x := by
 intro v l w hr ht hz h hc
 obtain ⟨hsh, hrp⟩ := hr.shape
 have hsz := Sx.sizeX_parts x
 have hsl := Sx.textX_len x
 rw [Sx.expr_eq, hkd] at hc ⊢
 rw [hkd] at hsh
 simp only [Int.reduceEq, if_true, if_false, or_false, false_or, or_true, true_or, reduceIte, Nat.reduceEqDiff] at hc ⊢
 simp [Sx.shapeX] at hsh
 have hrts : Sx.rightTs NM 64 x.t = true := hsh.2.2.1.2
 have htl : x.t.length = 1 := hsh.2.2.1.1
 obtain ⟨At, ct, An, cn, Ap, cp, rfl, htt, hnn, hp, hn0, hn1⟩ := ht.agg
 rw [hkd]
 have hltT : 0 < x.t.length := by omega
 obtain ⟨gT, offT, AnT, cnT, AeT, ceT, AqT, cqT, rfl, htyT, hcT⟩ := htt.spot 0 hltT
 obtain ⟨tT, hpeT⟩ : ∃ p, x.t[0]'hltT = p := ⟨_, rfl⟩
 have hmemT : tT ∈ x.t := by rw [← hpeT]; exact List.getElem_mem hltT
 rw [hpeT] at hcT htyT
 have hzT : Sx.size tT ≤ 1000000 := by have := Sx.size_mem hmemT; omega
 have hltiT : (0 : Int) < (x.t.length : Int) := by omega
 have hrT := Sx.rights_mem hrts tT hmemT
 have htyp := Sx.typL_head hltT
 rw [hpeT] at htyp
 have HCT := Lib.hid hcT
 have HTYT := Lib.hid htyT
 clear hcT htyT
 rw [htyp] at hc ⊢
 have hb : l.length + 1 ≤ 1000000000 := by simp at hc; omega
 simp only [List.length_cons] at hc
 have HTP := Lib.hid (show ∀ u w, IsTy W0 u tT → Wrote W0 b (l ++ [[110, 105, 108]]).length (l ++ [[110, 105, 108]]) w → Calls Tryz.prog 59 #[.pointer (some ⟨b, 0, none⟩), u] w fun e w' => e = .returned (.tuple #[]) ∧ Wrote W0 b (l ++ [[110, 105, 108]] ++ Sx.typ tT).length (l ++ [[110, 105, 108]] ++ Sx.typ tT) w' ∧ KeepW w w' from fun u w hu hw => by
  have hl9 : (l ++ [[110, 105, 108]]).length + 10 * Sx.size tT ≤ 1000000000 := by simp; omega
  refine ((zckZ NM NM.ok W0 b _ tT (Nat.le_refl _)).1 64 u _ _ w hrT hu hw hl9).mono ?_
  rintro e w' ⟨h1, h2, h3⟩
  exact ⟨h1, h2.tight, h3⟩)
 obtain ⟨L, hL⟩ : ∃ L, w.heap.size = L := ⟨_, rfl⟩
 obtain ⟨w2, hw2⟩ : ∃ w2, w.alloc (.cells #[.int .i64 x.pos, .int .i64 6, .int .i64 x.n, .string ⟨x.s.toArray⟩, .slice (some ⟨gT, offT, none⟩) x.t.length ct, .slice An x.names.length cn, .slice Ap x.parts.length cp] 39) = w2 := ⟨_, rfl⟩
 have hlv := Live.first h #[.int .i64 x.pos, .int .i64 6, .int .i64 x.n, .string ⟨x.s.toArray⟩, .slice (some ⟨gT, offT, none⟩) x.t.length ct, .slice An x.names.length cn, .slice Ap x.parts.length cp] 39 hw2
 rw [hL] at hlv
 have H2 := Lib.hid hlv
 clear hlv h
 clear hr ht hz hc hsh hrp hsz hsl htt hnn hp hn0 hn1 hkd ih hG hN hrts htl hpeT hmemT hzT hrT htyp hltT
 go_enter Tryz.func64, Tryz.ntmps64
 obtain ⟨x0, x1, x2, x3, x4, x5, x6⟩ := zbZ H2.out.b1
 obtain ⟨hl1, hl2, hbl⟩ := H2.out.lt
 obtain ⟨dg, d0, d1, d2, d3, d4⟩ := HCT.out w2 H2.out.wr.below
 rw [Nat.zero_mul, Nat.add_zero] at d0 d1 d2 d3 d4
 go_upto_region 15 with (go_at_call 100; refine (H2.out.lput1 [110, 105, 108] ⟨by simp, by simp⟩ hb).mono ?_; rintro e w3 ⟨rfl, hW3, hk3⟩)
 have H3 := Lib.hid (H2.out.go oEx oEx hW3 hk3)
 clear hW3 hk3
 clear x0 x1 x2 x3 x4 x5 x6 hl1 hl2 hbl d0 d1 d2 d3 d4 dg
 obtain ⟨x0, x1, x2, x3, x4, x5, x6⟩ := zbZ H3.out.b1
 obtain ⟨hl1, hl2, hbl⟩ := H3.out.lt
 obtain ⟨dg, d0, d1, d2, d3, d4⟩ := HCT.out w3 H3.out.wr.below
 rw [Nat.zero_mul, Nat.add_zero] at d0 d1 d2 d3 d4
 go_wp2_with (go_at_call 59; refine (HTP.out _ w3 HTYT.out H3.out.wr).mono ?_; rintro e w4 ⟨rfl, hW4, hk4⟩)
 have H4 := Lib.hid (H3.out.go oEx oEx hW4 hk4)
 clear hW4 hk4
 clear x0 x1 x2 x3 x4 x5 x6 hl1 hl2 hbl d0 d1 d2 d3 d4 dg
 go_end0
 refine ⟨rfl, ?_, H4.out.kp⟩
 have h9 := H4.out.wr
 simpa [List.append_assoc] using h9
set_option maxRecDepth 100000 in
set_option maxHeartbeats 8000000 in
theorem zmoZ {W0 : World} {b : Nat} {x : Sx.Ex} (ih : ∀ p ∈ x.parts, ExprOk W0 b p) (hG : GS W0) (hN : NG ≤ W0.heap.size) (hkd : x.kind = 7) : ExprOk W0 b x := by
 intro v l w hr ht hz h hc
 obtain ⟨hsh, hrp⟩ := hr.shape
 have hsz := Sx.sizeX_parts x
 have hsl := Sx.textX_len x
 rw [Sx.expr_eq, hkd] at hc ⊢
 rw [hkd] at hsh
 simp only [Int.reduceEq, if_true, if_false, or_false, false_or, or_true, true_or, reduceIte, Nat.reduceEqDiff] at hc ⊢
 simp [Sx.shapeX] at hsh
 have hrec := zitZ ih hkd v l
 have hre : Sx.rec x = [] ++ [x.s, [123]] ++ Sx.record SY 0 x.names x.parts ++ [[125]] := by unfold Sx.rec; rw [hkd]; simp
 have hc2 : l.length + (Sx.rec x).length ≤ 900000000 := by rw [hre]; exact hc
 rw [← hre]
 have HRE := Lib.hid (fun w hw => hrec w hr ht hz hw hc2)
 obtain ⟨At, ct, An, cn, Ap, cp, rfl, htt, hnn, hp, hn0, hn1⟩ := ht.agg
 rw [hkd] at HRE ⊢
 obtain ⟨L, hL⟩ : ∃ L, w.heap.size = L := ⟨_, rfl⟩
 obtain ⟨w2, hw2⟩ : ∃ w2, w.alloc (.cells #[.int .i64 x.pos, .int .i64 7, .int .i64 x.n, .string ⟨x.s.toArray⟩, .slice At x.t.length ct, .slice An x.names.length cn, .slice Ap x.parts.length cp] 39) = w2 := ⟨_, rfl⟩
 have hlv := Live.first h #[.int .i64 x.pos, .int .i64 7, .int .i64 x.n, .string ⟨x.s.toArray⟩, .slice At x.t.length ct, .slice An x.names.length cn, .slice Ap x.parts.length cp] 39 hw2
 rw [hL] at hlv
 have H2 := Lib.hid hlv
 clear hlv h
 clear hr ht hz hc hsh hrp hsz hsl htt hnn hp hn0 hn1 hkd ih hG hN hrec hre hc2
 go_enter Tryz.func64, Tryz.ntmps64
 obtain ⟨x0, x1, x2, x3, x4, x5, x6⟩ := zbZ H2.out.b1
 obtain ⟨hl1, hl2, hbl⟩ := H2.out.lt
 go_wp2_with (go_at_call 115; refine (HRE.out w2 H2.out.wr).mono ?_; rintro e w3 ⟨rfl, hW3, hk3⟩)
 have H3 := Lib.hid (H2.out.go oEx oEx hW3 hk3)
 clear hW3 hk3
 clear x0 x1 x2 x3 x4 x5 x6 hl1 hl2 hbl
 go_end0
 refine ⟨rfl, ?_, H3.out.kp⟩
 have h9 := H3.out.wr
 simpa [List.append_assoc] using h9
set_option maxRecDepth 100000 in
set_option maxHeartbeats 8000000 in
theorem zmpZ {W0 : World} {b : Nat} {x : Sx.Ex} (ih : ∀ p ∈ x.parts, ExprOk W0 b p) (hG : GS W0) (hN : NG ≤ W0.heap.size) (hkd : x.kind = 8) : ExprOk W0 b x := by
 intro v l w hr ht hz h hc
 obtain ⟨hsh, hrp⟩ := hr.shape
 have hsz := Sx.sizeX_parts x
 have hsl := Sx.textX_len x
 rw [Sx.expr_eq, hkd] at hc ⊢
 rw [hkd] at hsh
 simp only [Int.reduceEq, if_true, if_false, or_false, false_or, or_true, true_or, reduceIte, Nat.reduceEqDiff] at hc ⊢
 simp [Sx.shapeX] at hsh
 have hrec := ziuZ ih hkd v l
 have hre : Sx.rec x = [[110, 101, 119]] ++ [x.s, [123]] ++ Sx.record SY 0 x.names x.parts ++ [[125]] := by unfold Sx.rec; rw [hkd]; simp
 have hc2 : l.length + (Sx.rec x).length ≤ 900000000 := by rw [hre]; exact hc
 rw [← hre]
 have HRE := Lib.hid (fun w hw => hrec w hr ht hz hw hc2)
 obtain ⟨At, ct, An, cn, Ap, cp, rfl, htt, hnn, hp, hn0, hn1⟩ := ht.agg
 rw [hkd] at HRE ⊢
 obtain ⟨L, hL⟩ : ∃ L, w.heap.size = L := ⟨_, rfl⟩
 obtain ⟨w2, hw2⟩ : ∃ w2, w.alloc (.cells #[.int .i64 x.pos, .int .i64 8, .int .i64 x.n, .string ⟨x.s.toArray⟩, .slice At x.t.length ct, .slice An x.names.length cn, .slice Ap x.parts.length cp] 39) = w2 := ⟨_, rfl⟩
 have hlv := Live.first h #[.int .i64 x.pos, .int .i64 8, .int .i64 x.n, .string ⟨x.s.toArray⟩, .slice At x.t.length ct, .slice An x.names.length cn, .slice Ap x.parts.length cp] 39 hw2
 rw [hL] at hlv
 have H2 := Lib.hid hlv
 clear hlv h
 clear hr ht hz hc hsh hrp hsz hsl htt hnn hp hn0 hn1 hkd ih hG hN hrec hre hc2
 go_enter Tryz.func64, Tryz.ntmps64
 obtain ⟨x0, x1, x2, x3, x4, x5, x6⟩ := zbZ H2.out.b1
 obtain ⟨hl1, hl2, hbl⟩ := H2.out.lt
 go_wp2_with (go_at_call 115; refine (HRE.out w2 H2.out.wr).mono ?_; rintro e w3 ⟨rfl, hW3, hk3⟩)
 have H3 := Lib.hid (H2.out.go oEx oEx hW3 hk3)
 clear hW3 hk3
 clear x0 x1 x2 x3 x4 x5 x6 hl1 hl2 hbl
 go_end0
 refine ⟨rfl, ?_, H3.out.kp⟩
 have h9 := H3.out.wr
 simpa [List.append_assoc] using h9
set_option maxRecDepth 100000 in
set_option maxHeartbeats 8000000 in
theorem zmqZ {W0 : World} {b : Nat} {x : Sx.Ex} (ih : ∀ p ∈ x.parts, ExprOk W0 b p) (hG : GS W0) (hN : NG ≤ W0.heap.size) (hkd : x.kind = 9) : ExprOk W0 b x := by
 intro v l w hr ht hz h hc
 obtain ⟨hsh, hrp⟩ := hr.shape
 have hsz := Sx.sizeX_parts x
 have hsl := Sx.textX_len x
 rw [Sx.expr_eq, hkd] at hc ⊢
 rw [hkd] at hsh
 simp only [Int.reduceEq, if_true, if_false, or_false, false_or, or_true, true_or, reduceIte, Nat.reduceEqDiff] at hc ⊢
 simp [Sx.shapeX] at hsh
 have hss0 := hsh.1
 have hpl : x.parts.length = 1 := by have := hsh; omega
 have hlt0 : 0 < x.parts.length := by omega
 obtain ⟨At, ct, An, cn, Ap, cp, rfl, htt, hnn, hp, hn0, hn1⟩ := ht.agg
 rw [hkd]
 obtain ⟨g0, off0, At0, ct0, An0, cn0, Ap0, cp0, hA0, hty0, hc0⟩ := hp.spot 0 hlt0
 obtain ⟨p0, hpe0⟩ : ∃ p, x.parts[0]'hlt0 = p := ⟨_, rfl⟩
 have hmem0 : p0 ∈ x.parts := by rw [← hpe0]; exact List.getElem_mem hlt0
 rw [hpe0] at hc0 hty0
 have hz0 : Sx.sizeX p0 ≤ 1000000 := by have := Sx.sizeX_mem hmem0; omega
 have hlti0 : (0 : Int) < (x.parts.length : Int) := by omega
 have HC0 := Lib.hid hc0
 have HTY0 := Lib.hid hty0
 clear hc0 hty0
 subst hA0
 have hfirst := Sx.first_head 7 hlt0
 rw [hpe0] at hfirst
 obtain ⟨q0, hq0⟩ : ∃ q, Sx.part 7 p0 = q := ⟨_, rfl⟩
 rw [hq0] at hfirst
 rw [hfirst] at hc ⊢
 have hlen : l.length + (q0.length + 2) ≤ 900000000 := by simp at hc; omega
 have hss : x.s ≠ [] ∧ x.s.length ≤ 1000000000 := ⟨NM.ok.small _ hss0, by omega⟩
 have HA := Lib.hid (show ∀ u w, IsEx W0 u p0 → Wrote W0 b (l).length (l) w → Calls Tryz.prog 116 #[.pointer (some ⟨b, 0, none⟩), u, .int .i64 (7)] w fun e w' => e = .returned (.tuple #[]) ∧ Wrote W0 b (l ++ q0).length (l ++ q0) w' ∧ KeepW w w' from fun u w hu hw => by
  have := synPart (ih p0 hmem0) (7) (by omega) (hrp p0 hmem0).kind.1 (hrp p0 hmem0).kind.2 u (l) w (hrp p0 hmem0) hu hz0 hw (by rw [hq0]; (try simp); omega)
  rw [hq0] at this
  exact this)
 have hb : (l ++ q0).length + 2 ≤ 1000000000 := by simp; omega
 have HSS := Lib.hid hss
 obtain ⟨L, hL⟩ : ∃ L, w.heap.size = L := ⟨_, rfl⟩
 obtain ⟨w2, hw2⟩ : ∃ w2, w.alloc (.cells #[.int .i64 x.pos, .int .i64 9, .int .i64 x.n, .string ⟨x.s.toArray⟩, .slice At x.t.length ct, .slice An x.names.length cn, .slice (some ⟨g0, off0, none⟩) x.parts.length cp] 39) = w2 := ⟨_, rfl⟩
 have hlv := Live.first h #[.int .i64 x.pos, .int .i64 9, .int .i64 x.n, .string ⟨x.s.toArray⟩, .slice At x.t.length ct, .slice An x.names.length cn, .slice (some ⟨g0, off0, none⟩) x.parts.length cp] 39 hw2
 rw [hL] at hlv
 have H2 := Lib.hid hlv
 clear hlv h
 clear hr ht hz hc hsh hrp hsz hsl htt hnn hp hn0 hn1 hkd ih hG hN hpe0 hmem0 hz0 hlt0 hq0 hfirst hss0 hpl hss hlen
 go_enter Tryz.func64, Tryz.ntmps64
 obtain ⟨x0, x1, x2, x3, x4, x5, x6⟩ := zbZ H2.out.b1
 obtain ⟨hl1, hl2, hbl⟩ := H2.out.lt
 obtain ⟨dg, d0, d1, d2, d3, d4, d5, d6⟩ := HC0.out w2 H2.out.wr.below
 rw [Nat.zero_mul, Nat.add_zero] at d0 d1 d2 d3 d4 d5 d6
 go_upto_region 21 with (go_at_call 116; refine (HA.out _ w2 HTY0.out H2.out.wr).mono ?_; rintro e w3 ⟨rfl, hW3, hk3⟩)
 have H3 := Lib.hid (H2.out.go oEx oEx hW3 hk3)
 clear hW3 hk3
 clear x0 x1 x2 x3 x4 x5 x6 hl1 hl2 hbl d0 d1 d2 d3 d4 d5 d6 dg
 obtain ⟨x0, x1, x2, x3, x4, x5, x6⟩ := zbZ H3.out.b1
 obtain ⟨hl1, hl2, hbl⟩ := H3.out.lt
 obtain ⟨dg, d0, d1, d2, d3, d4, d5, d6⟩ := HC0.out w3 H3.out.wr.below
 rw [Nat.zero_mul, Nat.add_zero] at d0 d1 d2 d3 d4 d5 d6
 go_upto_region 21 with fail
 have HD3 := Lib.hid H3.out.drew
 go_region_with (go_at_call 100; refine (HD3.out.lput2 [46] x.s ⟨by simp, by simp⟩ HSS.out hb).mono ?_; rintro e w4 ⟨rfl, hW4, hk4⟩)
 have H4 := Lib.hid (HD3.out.go oEx oEx hW4 hk4)
 clear hW4 hk4
 clear x0 x1 x2 x3 x4 x5 x6 hl1 hl2 hbl d0 d1 d2 d3 d4 d5 d6 dg
 go_end0
 refine ⟨rfl, ?_, H4.out.kp⟩
 have h9 := H4.out.wr
 simpa [List.append_assoc] using h9
set_option maxRecDepth 100000 in
set_option maxHeartbeats 8000000 in
theorem zjxZ {W0 : World} {b : Nat} {x : Sx.Ex} (ih : ∀ p ∈ x.parts, ExprOk W0 b p) (hG : GS W0) (hN : NG ≤ W0.heap.size) (hkd : x.kind = 12) : ExprOk W0 b x := by
 intro v l w hr ht hz h hc
 obtain ⟨hsh, hrp⟩ := hr.shape
 have hsz := Sx.sizeX_parts x
 have hsl := Sx.textX_len x
 rw [Sx.expr_eq, hkd] at hc ⊢
 rw [hkd] at hsh
 simp only [Int.reduceEq, if_true, if_false, or_false, false_or, or_true, true_or, reduceIte, Nat.reduceEqDiff] at hc ⊢
 simp [Sx.shapeX] at hsh
 have hrts : Sx.rightTs NM 64 x.t = true := hsh.2.2.1.2
 have htl : x.t.length = 1 := hsh.2.2.1.1
 have hpl : x.parts.length = 1 := by have := hsh; omega
 have hlt0 : 0 < x.parts.length := by omega
 obtain ⟨At, ct, An, cn, Ap, cp, rfl, htt, hnn, hp, hn0, hn1⟩ := ht.agg
 rw [hkd]
 obtain ⟨g0, off0, At0, ct0, An0, cn0, Ap0, cp0, hA0, hty0, hc0⟩ := hp.spot 0 hlt0
 obtain ⟨p0, hpe0⟩ : ∃ p, x.parts[0]'hlt0 = p := ⟨_, rfl⟩
 have hmem0 : p0 ∈ x.parts := by rw [← hpe0]; exact List.getElem_mem hlt0
 rw [hpe0] at hc0 hty0
 have hz0 : Sx.sizeX p0 ≤ 1000000 := by have := Sx.sizeX_mem hmem0; omega
 have hlti0 : (0 : Int) < (x.parts.length : Int) := by omega
 have HC0 := Lib.hid hc0
 have HTY0 := Lib.hid hty0
 clear hc0 hty0
 subst hA0
 have hfirst := Sx.first_head 7 hlt0
 rw [hpe0] at hfirst
 obtain ⟨q0, hq0⟩ : ∃ q, Sx.part 7 p0 = q := ⟨_, rfl⟩
 rw [hq0] at hfirst
 rw [hfirst] at hc ⊢
 have hltT : 0 < x.t.length := by omega
 obtain ⟨gT, offT, AnT, cnT, AeT, ceT, AqT, cqT, rfl, htyT, hcT⟩ := htt.spot 0 hltT
 obtain ⟨tT, hpeT⟩ : ∃ p, x.t[0]'hltT = p := ⟨_, rfl⟩
 have hmemT : tT ∈ x.t := by rw [← hpeT]; exact List.getElem_mem hltT
 rw [hpeT] at hcT htyT
 have hzT : Sx.size tT ≤ 1000000 := by have := Sx.size_mem hmemT; omega
 have hltiT : (0 : Int) < (x.t.length : Int) := by omega
 have hrT := Sx.rights_mem hrts tT hmemT
 have htyp := Sx.typL_head hltT
 rw [hpeT] at htyp
 have HCT := Lib.hid hcT
 have HTYT := Lib.hid htyT
 clear hcT htyT
 rw [htyp] at hc ⊢
 have hlen : l.length + (q0.length + 1) ≤ 900000000 := by simp at hc; omega
 have hb : (l ++ q0).length + 1 ≤ 1000000000 := by simp; omega
 have HA := Lib.hid (show ∀ u w, IsEx W0 u p0 → Wrote W0 b (l).length (l) w → Calls Tryz.prog 116 #[.pointer (some ⟨b, 0, none⟩), u, .int .i64 (7)] w fun e w' => e = .returned (.tuple #[]) ∧ Wrote W0 b (l ++ q0).length (l ++ q0) w' ∧ KeepW w w' from fun u w hu hw => by
  have := synPart (ih p0 hmem0) (7) (by omega) (hrp p0 hmem0).kind.1 (hrp p0 hmem0).kind.2 u (l) w (hrp p0 hmem0) hu hz0 hw (by rw [hq0]; (try simp); omega)
  rw [hq0] at this
  exact this)
 have HTP := Lib.hid (show ∀ u w, IsTy W0 u tT → Wrote W0 b (l ++ q0 ++ [[116, 111]]).length (l ++ q0 ++ [[116, 111]]) w → Calls Tryz.prog 59 #[.pointer (some ⟨b, 0, none⟩), u] w fun e w' => e = .returned (.tuple #[]) ∧ Wrote W0 b (l ++ q0 ++ [[116, 111]] ++ Sx.typ tT).length (l ++ q0 ++ [[116, 111]] ++ Sx.typ tT) w' ∧ KeepW w w' from fun u w hu hw => by
  have hl9 : (l ++ q0 ++ [[116, 111]]).length + 10 * Sx.size tT ≤ 1000000000 := by simp; omega
  refine ((zckZ NM NM.ok W0 b _ tT (Nat.le_refl _)).1 64 u _ _ w hrT hu hw hl9).mono ?_
  rintro e w' ⟨h1, h2, h3⟩
  exact ⟨h1, h2.tight, h3⟩)
 obtain ⟨L, hL⟩ : ∃ L, w.heap.size = L := ⟨_, rfl⟩
 obtain ⟨w2, hw2⟩ : ∃ w2, w.alloc (.cells #[.int .i64 x.pos, .int .i64 12, .int .i64 x.n, .string ⟨x.s.toArray⟩, .slice (some ⟨gT, offT, none⟩) x.t.length ct, .slice An x.names.length cn, .slice (some ⟨g0, off0, none⟩) x.parts.length cp] 39) = w2 := ⟨_, rfl⟩
 have hlv := Live.first h #[.int .i64 x.pos, .int .i64 12, .int .i64 x.n, .string ⟨x.s.toArray⟩, .slice (some ⟨gT, offT, none⟩) x.t.length ct, .slice An x.names.length cn, .slice (some ⟨g0, off0, none⟩) x.parts.length cp] 39 hw2
 rw [hL] at hlv
 have H2 := Lib.hid hlv
 clear hlv h
 clear hr ht hz hc hsh hrp hsz hsl htt hnn hp hn0 hn1 hkd ih hG hN hpe0 hmem0 hz0 hlt0 hq0 hfirst hrts htl hpeT hmemT hzT hrT htyp hltT hpl hlen
 go_enter Tryz.func64, Tryz.ntmps64
 obtain ⟨x0, x1, x2, x3, x4, x5, x6⟩ := zbZ H2.out.b1
 obtain ⟨hl1, hl2, hbl⟩ := H2.out.lt
 obtain ⟨dg, d0, d1, d2, d3, d4, d5, d6⟩ := HC0.out w2 H2.out.wr.below
 rw [Nat.zero_mul, Nat.add_zero] at d0 d1 d2 d3 d4 d5 d6
 obtain ⟨eg, e0, e1, e2, e3, e4⟩ := HCT.out w2 H2.out.wr.below
 rw [Nat.zero_mul, Nat.add_zero] at e0 e1 e2 e3 e4
 go_upto_region 33 with (go_at_call 116; refine (HA.out _ w2 HTY0.out H2.out.wr).mono ?_; rintro e w3 ⟨rfl, hW3, hk3⟩)
 have H3 := Lib.hid (H2.out.go oEx oEx hW3 hk3)
 clear hW3 hk3
 clear x0 x1 x2 x3 x4 x5 x6 hl1 hl2 hbl d0 d1 d2 d3 d4 d5 d6 dg e0 e1 e2 e3 e4 eg
 obtain ⟨x0, x1, x2, x3, x4, x5, x6⟩ := zbZ H3.out.b1
 obtain ⟨hl1, hl2, hbl⟩ := H3.out.lt
 obtain ⟨dg, d0, d1, d2, d3, d4, d5, d6⟩ := HC0.out w3 H3.out.wr.below
 rw [Nat.zero_mul, Nat.add_zero] at d0 d1 d2 d3 d4 d5 d6
 obtain ⟨eg, e0, e1, e2, e3, e4⟩ := HCT.out w3 H3.out.wr.below
 rw [Nat.zero_mul, Nat.add_zero] at e0 e1 e2 e3 e4
 go_upto_region 34 with (go_at_call 100; refine (H3.out.lput1 [116, 111] ⟨by simp, by simp⟩ hb).mono ?_; rintro e w4 ⟨rfl, hW4, hk4⟩)
 have H4 := Lib.hid (H3.out.go oEx oEx hW4 hk4)
 clear hW4 hk4
 clear x0 x1 x2 x3 x4 x5 x6 hl1 hl2 hbl d0 d1 d2 d3 d4 d5 d6 dg e0 e1 e2 e3 e4 eg
 obtain ⟨x0, x1, x2, x3, x4, x5, x6⟩ := zbZ H4.out.b1
 obtain ⟨hl1, hl2, hbl⟩ := H4.out.lt
 obtain ⟨dg, d0, d1, d2, d3, d4, d5, d6⟩ := HC0.out w4 H4.out.wr.below
 rw [Nat.zero_mul, Nat.add_zero] at d0 d1 d2 d3 d4 d5 d6
 obtain ⟨eg, e0, e1, e2, e3, e4⟩ := HCT.out w4 H4.out.wr.below
 rw [Nat.zero_mul, Nat.add_zero] at e0 e1 e2 e3 e4
 go_wp2_with (go_at_call 59; refine (HTP.out _ w4 HTYT.out H4.out.wr).mono ?_; rintro e w5 ⟨rfl, hW5, hk5⟩)
 have H5 := Lib.hid (H4.out.go oEx oEx hW5 hk5)
 clear hW5 hk5
 clear x0 x1 x2 x3 x4 x5 x6 hl1 hl2 hbl d0 d1 d2 d3 d4 d5 d6 dg e0 e1 e2 e3 e4 eg
 go_end0
 refine ⟨rfl, ?_, H5.out.kp⟩
 have h9 := H5.out.wr
 simpa [List.append_assoc] using h9
set_option maxRecDepth 100000 in
set_option maxHeartbeats 8000000 in
theorem zjyZ {W0 : World} {b : Nat} {x : Sx.Ex} (ih : ∀ p ∈ x.parts, ExprOk W0 b p) (hG : GS W0) (hN : NG ≤ W0.heap.size) (hkd : x.kind = 13) : ExprOk W0 b x := by
 intro v l w hr ht hz h hc
 obtain ⟨hsh, hrp⟩ := hr.shape
 have hsz := Sx.sizeX_parts x
 have hsl := Sx.textX_len x
 rw [Sx.expr_eq, hkd] at hc ⊢
 rw [hkd] at hsh
 simp only [Int.reduceEq, if_true, if_false, or_false, false_or, or_true, true_or, reduceIte, Nat.reduceEqDiff] at hc ⊢
 simp [Sx.shapeX] at hsh
 have hpl : x.parts.length = 1 := by have := hsh; omega
 have hlt0 : 0 < x.parts.length := by omega
 obtain ⟨At, ct, An, cn, Ap, cp, rfl, htt, hnn, hp, hn0, hn1⟩ := ht.agg
 rw [hkd]
 obtain ⟨g0, off0, At0, ct0, An0, cn0, Ap0, cp0, hA0, hty0, hc0⟩ := hp.spot 0 hlt0
 obtain ⟨p0, hpe0⟩ : ∃ p, x.parts[0]'hlt0 = p := ⟨_, rfl⟩
 have hmem0 : p0 ∈ x.parts := by rw [← hpe0]; exact List.getElem_mem hlt0
 rw [hpe0] at hc0 hty0
 have hz0 : Sx.sizeX p0 ≤ 1000000 := by have := Sx.sizeX_mem hmem0; omega
 have hlti0 : (0 : Int) < (x.parts.length : Int) := by omega
 have HC0 := Lib.hid hc0
 have HTY0 := Lib.hid hty0
 clear hc0 hty0
 subst hA0
 have hfirst := Sx.first_head 6 hlt0
 rw [hpe0] at hfirst
 obtain ⟨q0, hq0⟩ : ∃ q, Sx.part 6 p0 = q := ⟨_, rfl⟩
 rw [hq0] at hfirst
 rw [hfirst] at hc ⊢
 have hlen : l.length + (1 + q0.length) ≤ 900000000 := by simp at hc; omega
 have hb : l.length + 1 ≤ 1000000000 := by omega
 have HA := Lib.hid (show ∀ u w, IsEx W0 u p0 → Wrote W0 b (l ++ [[45]]).length (l ++ [[45]]) w → Calls Tryz.prog 116 #[.pointer (some ⟨b, 0, none⟩), u, .int .i64 (6)] w fun e w' => e = .returned (.tuple #[]) ∧ Wrote W0 b (l ++ [[45]] ++ q0).length (l ++ [[45]] ++ q0) w' ∧ KeepW w w' from fun u w hu hw => by
  have := synPart (ih p0 hmem0) (6) (by omega) (hrp p0 hmem0).kind.1 (hrp p0 hmem0).kind.2 u (l ++ [[45]]) w (hrp p0 hmem0) hu hz0 hw (by rw [hq0]; (try simp); omega)
  rw [hq0] at this
  exact this)
 obtain ⟨L, hL⟩ : ∃ L, w.heap.size = L := ⟨_, rfl⟩
 obtain ⟨w2, hw2⟩ : ∃ w2, w.alloc (.cells #[.int .i64 x.pos, .int .i64 13, .int .i64 x.n, .string ⟨x.s.toArray⟩, .slice At x.t.length ct, .slice An x.names.length cn, .slice (some ⟨g0, off0, none⟩) x.parts.length cp] 39) = w2 := ⟨_, rfl⟩
 have hlv := Live.first h #[.int .i64 x.pos, .int .i64 13, .int .i64 x.n, .string ⟨x.s.toArray⟩, .slice At x.t.length ct, .slice An x.names.length cn, .slice (some ⟨g0, off0, none⟩) x.parts.length cp] 39 hw2
 rw [hL] at hlv
 have H2 := Lib.hid hlv
 clear hlv h
 clear hr ht hz hc hsh hrp hsz hsl htt hnn hp hn0 hn1 hkd ih hG hN hpe0 hmem0 hz0 hlt0 hq0 hfirst hpl hlen
 go_enter Tryz.func64, Tryz.ntmps64
 obtain ⟨x0, x1, x2, x3, x4, x5, x6⟩ := zbZ H2.out.b1
 obtain ⟨hl1, hl2, hbl⟩ := H2.out.lt
 obtain ⟨dg, d0, d1, d2, d3, d4, d5, d6⟩ := HC0.out w2 H2.out.wr.below
 rw [Nat.zero_mul, Nat.add_zero] at d0 d1 d2 d3 d4 d5 d6
 go_upto_region 40 with (go_at_call 100; refine (H2.out.lput1 [45] ⟨by simp, by simp⟩ hb).mono ?_; rintro e w3 ⟨rfl, hW3, hk3⟩)
 have H3 := Lib.hid (H2.out.go oEx oEx hW3 hk3)
 clear hW3 hk3
 clear x0 x1 x2 x3 x4 x5 x6 hl1 hl2 hbl d0 d1 d2 d3 d4 d5 d6 dg
 obtain ⟨x0, x1, x2, x3, x4, x5, x6⟩ := zbZ H3.out.b1
 obtain ⟨hl1, hl2, hbl⟩ := H3.out.lt
 obtain ⟨dg, d0, d1, d2, d3, d4, d5, d6⟩ := HC0.out w3 H3.out.wr.below
 rw [Nat.zero_mul, Nat.add_zero] at d0 d1 d2 d3 d4 d5 d6
 go_wp2_with (go_at_call 116; refine (HA.out _ w3 HTY0.out H3.out.wr).mono ?_; rintro e w4 ⟨rfl, hW4, hk4⟩)
 have H4 := Lib.hid (H3.out.go oEx oEx hW4 hk4)
 clear hW4 hk4
 clear x0 x1 x2 x3 x4 x5 x6 hl1 hl2 hbl d0 d1 d2 d3 d4 d5 d6 dg
 go_end0
 refine ⟨rfl, ?_, H4.out.kp⟩
 have h9 := H4.out.wr
 simpa [List.append_assoc] using h9
set_option maxRecDepth 100000 in
set_option maxHeartbeats 8000000 in
theorem zjzZ {W0 : World} {b : Nat} {x : Sx.Ex} (ih : ∀ p ∈ x.parts, ExprOk W0 b p) (hG : GS W0) (hN : NG ≤ W0.heap.size) (hkd : x.kind = 14) : ExprOk W0 b x := by
 intro v l w hr ht hz h hc
 obtain ⟨hsh, hrp⟩ := hr.shape
 have hsz := Sx.sizeX_parts x
 have hsl := Sx.textX_len x
 rw [Sx.expr_eq, hkd] at hc ⊢
 rw [hkd] at hsh
 simp only [Int.reduceEq, if_true, if_false, or_false, false_or, or_true, true_or, reduceIte, Nat.reduceEqDiff] at hc ⊢
 simp [Sx.shapeX] at hsh
 have hpl : x.parts.length = 1 := by have := hsh; omega
 have hlt0 : 0 < x.parts.length := by omega
 obtain ⟨At, ct, An, cn, Ap, cp, rfl, htt, hnn, hp, hn0, hn1⟩ := ht.agg
 rw [hkd]
 obtain ⟨g0, off0, At0, ct0, An0, cn0, Ap0, cp0, hA0, hty0, hc0⟩ := hp.spot 0 hlt0
 obtain ⟨p0, hpe0⟩ : ∃ p, x.parts[0]'hlt0 = p := ⟨_, rfl⟩
 have hmem0 : p0 ∈ x.parts := by rw [← hpe0]; exact List.getElem_mem hlt0
 rw [hpe0] at hc0 hty0
 have hz0 : Sx.sizeX p0 ≤ 1000000 := by have := Sx.sizeX_mem hmem0; omega
 have hlti0 : (0 : Int) < (x.parts.length : Int) := by omega
 have HC0 := Lib.hid hc0
 have HTY0 := Lib.hid hty0
 clear hc0 hty0
 subst hA0
 have hfirst := Sx.first_head 6 hlt0
 rw [hpe0] at hfirst
 obtain ⟨q0, hq0⟩ : ∃ q, Sx.part 6 p0 = q := ⟨_, rfl⟩
 rw [hq0] at hfirst
 rw [hfirst] at hc ⊢
 have hlen : l.length + (1 + q0.length) ≤ 900000000 := by simp at hc; omega
 have hb : l.length + 1 ≤ 1000000000 := by omega
 have HA := Lib.hid (show ∀ u w, IsEx W0 u p0 → Wrote W0 b (l ++ [[110, 111, 116]]).length (l ++ [[110, 111, 116]]) w → Calls Tryz.prog 116 #[.pointer (some ⟨b, 0, none⟩), u, .int .i64 (6)] w fun e w' => e = .returned (.tuple #[]) ∧ Wrote W0 b (l ++ [[110, 111, 116]] ++ q0).length (l ++ [[110, 111, 116]] ++ q0) w' ∧ KeepW w w' from fun u w hu hw => by
  have := synPart (ih p0 hmem0) (6) (by omega) (hrp p0 hmem0).kind.1 (hrp p0 hmem0).kind.2 u (l ++ [[110, 111, 116]]) w (hrp p0 hmem0) hu hz0 hw (by rw [hq0]; (try simp); omega)
  rw [hq0] at this
  exact this)
 obtain ⟨L, hL⟩ : ∃ L, w.heap.size = L := ⟨_, rfl⟩
 obtain ⟨w2, hw2⟩ : ∃ w2, w.alloc (.cells #[.int .i64 x.pos, .int .i64 14, .int .i64 x.n, .string ⟨x.s.toArray⟩, .slice At x.t.length ct, .slice An x.names.length cn, .slice (some ⟨g0, off0, none⟩) x.parts.length cp] 39) = w2 := ⟨_, rfl⟩
 have hlv := Live.first h #[.int .i64 x.pos, .int .i64 14, .int .i64 x.n, .string ⟨x.s.toArray⟩, .slice At x.t.length ct, .slice An x.names.length cn, .slice (some ⟨g0, off0, none⟩) x.parts.length cp] 39 hw2
 rw [hL] at hlv
 have H2 := Lib.hid hlv
 clear hlv h
 clear hr ht hz hc hsh hrp hsz hsl htt hnn hp hn0 hn1 hkd ih hG hN hpe0 hmem0 hz0 hlt0 hq0 hfirst hpl hlen
 go_enter Tryz.func64, Tryz.ntmps64
 obtain ⟨x0, x1, x2, x3, x4, x5, x6⟩ := zbZ H2.out.b1
 obtain ⟨hl1, hl2, hbl⟩ := H2.out.lt
 obtain ⟨dg, d0, d1, d2, d3, d4, d5, d6⟩ := HC0.out w2 H2.out.wr.below
 rw [Nat.zero_mul, Nat.add_zero] at d0 d1 d2 d3 d4 d5 d6
 go_upto_region 40 with (go_at_call 100; refine (H2.out.lput1 [110, 111, 116] ⟨by simp, by simp⟩ hb).mono ?_; rintro e w3 ⟨rfl, hW3, hk3⟩)
 have H3 := Lib.hid (H2.out.go oEx oEx hW3 hk3)
 clear hW3 hk3
 clear x0 x1 x2 x3 x4 x5 x6 hl1 hl2 hbl d0 d1 d2 d3 d4 d5 d6 dg
 obtain ⟨x0, x1, x2, x3, x4, x5, x6⟩ := zbZ H3.out.b1
 obtain ⟨hl1, hl2, hbl⟩ := H3.out.lt
 obtain ⟨dg, d0, d1, d2, d3, d4, d5, d6⟩ := HC0.out w3 H3.out.wr.below
 rw [Nat.zero_mul, Nat.add_zero] at d0 d1 d2 d3 d4 d5 d6
 go_wp2_with (go_at_call 116; refine (HA.out _ w3 HTY0.out H3.out.wr).mono ?_; rintro e w4 ⟨rfl, hW4, hk4⟩)
 have H4 := Lib.hid (H3.out.go oEx oEx hW4 hk4)
 clear hW4 hk4
 clear x0 x1 x2 x3 x4 x5 x6 hl1 hl2 hbl d0 d1 d2 d3 d4 d5 d6 dg
 go_end0
 refine ⟨rfl, ?_, H4.out.kp⟩
 have h9 := H4.out.wr
 simpa [List.append_assoc] using h9
set_option maxRecDepth 100000 in
set_option maxHeartbeats 8000000 in
theorem zkaZ {W0 : World} {b : Nat} {x : Sx.Ex} (ih : ∀ p ∈ x.parts, ExprOk W0 b p) (h15 : 15 ≤ x.kind) : ExprOk W0 b x := by
 intro v l w hr ht hz h hc
 have hside := zmfZ ih h15 v l
 have he : Sx.expr SY x = Sx.sided x := by
  rw [Sx.expr_eq]
  rw [if_neg (by omega), if_neg (by omega), if_neg (by omega), if_neg (by omega), if_neg (by omega), if_neg (by omega), if_neg (by omega), if_neg (by omega), if_neg (by omega), if_neg (by omega), if_neg (by omega), if_neg (by omega)]
  rfl
 rw [he] at hc ⊢
 have HRE := Lib.hid (fun w hw => hside w hr ht hz hw hc)
 have h21 := hr.kind.2
 obtain ⟨At, ct, An, cn, Ap, cp, rfl, htt, hnn, hp, hn0, hn1⟩ := ht.agg
 obtain ⟨kd, hkd⟩ : ∃ kd, x.kind = kd := ⟨_, rfl⟩
 rw [hkd] at h15 h21 HRE ⊢
 have e1 : (kd == 1) = false := by rw [beq_eq_false_iff_ne]; omega
 have e2 : (kd == 2) = false := by rw [beq_eq_false_iff_ne]; omega
 have e3 : (kd == 3) = false := by rw [beq_eq_false_iff_ne]; omega
 have e4 : (kd == 4) = false := by rw [beq_eq_false_iff_ne]; omega
 have e5 : (kd == 5) = false := by rw [beq_eq_false_iff_ne]; omega
 have e6 : (kd == 6) = false := by rw [beq_eq_false_iff_ne]; omega
 have e7 : (kd == 7) = false := by rw [beq_eq_false_iff_ne]; omega
 have e8 : (kd == 8) = false := by rw [beq_eq_false_iff_ne]; omega
 have e9 : (kd == 9) = false := by rw [beq_eq_false_iff_ne]; omega
 have e10 : (kd == 10) = false := by rw [beq_eq_false_iff_ne]; omega
 have e11 : (kd == 11) = false := by rw [beq_eq_false_iff_ne]; omega
 have e12 : (kd == 12) = false := by rw [beq_eq_false_iff_ne]; omega
 have e13 : (kd == 13) = false := by rw [beq_eq_false_iff_ne]; omega
 have e14 : (kd == 14) = false := by rw [beq_eq_false_iff_ne]; omega
 obtain ⟨L, hL⟩ : ∃ L, w.heap.size = L := ⟨_, rfl⟩
 obtain ⟨w2, hw2⟩ : ∃ w2, w.alloc (.cells #[.int .i64 x.pos, .int .i64 kd, .int .i64 x.n, .string ⟨x.s.toArray⟩, .slice At x.t.length ct, .slice An x.names.length cn, .slice Ap x.parts.length cp] 39) = w2 := ⟨_, rfl⟩
 have hlv := Live.first h #[.int .i64 x.pos, .int .i64 kd, .int .i64 x.n, .string ⟨x.s.toArray⟩, .slice At x.t.length ct, .slice An x.names.length cn, .slice Ap x.parts.length cp] 39 hw2
 rw [hL] at hlv
 have H2 := Lib.hid hlv
 clear hlv h
 clear hr ht hz hc htt hnn hp hn0 hn1 hkd ih hside he h15 h21
 go_enter Tryz.func64, Tryz.ntmps64
 obtain ⟨x0, x1, x2, x3, x4, x5, x6⟩ := zbZ H2.out.b1
 obtain ⟨hl1, hl2, hbl⟩ := H2.out.lt
 go_wp2_with (go_at_call 119; refine (HRE.out w2 H2.out.wr).mono ?_; rintro e w3 ⟨rfl, hW3, hk3⟩)
 have H3 := Lib.hid (H2.out.go oEx oEx hW3 hk3)
 clear hW3 hk3
 clear x0 x1 x2 x3 x4 x5 x6 hl1 hl2 hbl
 go_end0
 refine ⟨rfl, ?_, H3.out.kp⟩
 have h9 := H3.out.wr
 simpa [List.append_assoc] using h9
end Go.Proofs.YtdncljdfmdgdaaaGreatDoor
namespace Go.Proofs.YtdncljdfmdgdaaaGreatDoor
open Go.RowKit Go.Shelf Go.WideMaps
set_option linter.unusedSimpArgs false
set_option linter.unusedVariables false
theorem Sx.sizeXs_tail (l : List Sx.Ex) : Sx.sizeXs l.tail ≤ Sx.sizeXs l := by
 cases l with
 | nil => exact Nat.le_refl _
 | cons x l => rw [List.tail_cons, Sx.sizeXs]; omega
set_option maxRecDepth 100000 in
set_option maxHeartbeats 8000000 in
theorem zkbZ {W0 : World} {b : Nat} {x : Sx.Ex} (ih : ∀ p ∈ x.parts, ExprOk W0 b p) (hG : GS W0) (hN : NG ≤ W0.heap.size) (hkd : x.kind = 10) : ExprOk W0 b x := by
 intro v l w hr ht hz h hc
 obtain ⟨hsh, hrp⟩ := hr.shape
 have hsz := Sx.sizeX_parts x
 have hsl := Sx.textX_len x
 rw [Sx.expr_eq, hkd] at hc ⊢
 rw [hkd] at hsh
 simp only [Int.reduceEq, if_true, if_false, or_false, false_or, or_true, true_or, reduceIte, Nat.reduceEqDiff] at hc ⊢
 simp [Sx.shapeX] at hsh
 have hss0 := hsh.1
 have hpl : 1 ≤ x.parts.length := by have := hsh; omega
 have hlt0 : 0 < x.parts.length := by omega
 obtain ⟨At, ct, An, cn, Ap, cp, rfl, htt, hnn, hp, hn0, hn1⟩ := ht.agg
 rw [hkd]
 obtain ⟨g0, off0, At0, ct0, An0, cn0, Ap0, cp0, hA0, hty0, hc0⟩ := hp.spot 0 hlt0
 obtain ⟨p0, hpe0⟩ : ∃ p, x.parts[0]'hlt0 = p := ⟨_, rfl⟩
 have hmem0 : p0 ∈ x.parts := by rw [← hpe0]; exact List.getElem_mem hlt0
 rw [hpe0] at hc0 hty0
 have hz0 : Sx.sizeX p0 ≤ 1000000 := by have := Sx.sizeX_mem hmem0; omega
 have hlti0 : (0 : Int) < (x.parts.length : Int) := by omega
 have HC0 := Lib.hid hc0
 have HTY0 := Lib.hid hty0
 clear hc0 hty0
 subst hA0
 obtain ⟨V, hV⟩ : ∃ V, sliced (some ⟨g0, off0, none⟩) 1 x.parts.length cp 7 = V := ⟨_, rfl⟩
 have hrun : ∀ w, (Instr.slice 37 (.slice (some ⟨g0, off0, none⟩) x.parts.length cp) (some (.int .i64 1)) none none).run Tryz.prog w = .ok V w := fun w => by rw [zhiZ _ _ _ _ (by omega), hV]
 have htl := hp.tail hlt0
 rw [hV] at htl
 have hlist := synList (b := b) (xs := x.parts.tail) (fun p hm => ih p (List.mem_of_mem_tail hm))
 have hszt : Sx.sizeXs x.parts.tail ≤ 1000000 := by have := Sx.sizeXs_tail x.parts; omega
 obtain ⟨qa, hqa⟩ : ∃ q, Sx.listed x.parts.tail = q := ⟨_, rfl⟩
 have hargs := Sx.args_tail hlt0
 rw [hqa] at hargs
 have hfirst := Sx.first_head 7 hlt0
 rw [hpe0] at hfirst
 obtain ⟨q0, hq0⟩ : ∃ q, Sx.part 7 p0 = q := ⟨_, rfl⟩
 rw [hq0] at hfirst
 rw [hfirst, hargs] at hc ⊢
 have hlen : l.length + (q0.length + 2 + qa.length) ≤ 900000000 := by simp at hc; omega
 have hss : x.s ≠ [] ∧ x.s.length ≤ 1000000000 := ⟨NM.ok.small _ hss0, by omega⟩
 have HA := Lib.hid (show ∀ u w, IsEx W0 u p0 → Wrote W0 b (l).length (l) w → Calls Tryz.prog 116 #[.pointer (some ⟨b, 0, none⟩), u, .int .i64 (7)] w fun e w' => e = .returned (.tuple #[]) ∧ Wrote W0 b (l ++ q0).length (l ++ q0) w' ∧ KeepW w w' from fun u w hu hw => by
  have := synPart (ih p0 hmem0) (7) (by omega) (hrp p0 hmem0).kind.1 (hrp p0 hmem0).kind.2 u (l) w (hrp p0 hmem0) hu hz0 hw (by rw [hq0]; (try simp); omega)
  rw [hq0] at this
  exact this)
 have HLI := Lib.hid (show ∀ w, Wrote W0 b (l ++ q0 ++ [[46], x.s]).length (l ++ q0 ++ [[46], x.s]) w → Calls Tryz.prog 117 #[.pointer (some ⟨b, 0, none⟩), V] w fun e w' => e = .returned (.tuple #[]) ∧ Wrote W0 b (l ++ q0 ++ [[46], x.s] ++ qa).length (l ++ q0 ++ [[46], x.s] ++ qa) w' ∧ KeepW w w' from fun w hw => by
  have := hlist V (l ++ q0 ++ [[46], x.s]) w (fun p hm => hrp p (List.mem_of_mem_tail hm)) htl hszt hw (by rw [hqa]; (try simp); omega)
  rw [hqa] at this
  exact this)
 have hb : (l ++ q0).length + 2 ≤ 1000000000 := by simp; omega
 have HSS := Lib.hid hss
 have hli : (1 : Int) ≤ (x.parts.length : Int) := by omega
 obtain ⟨L, hL⟩ : ∃ L, w.heap.size = L := ⟨_, rfl⟩
 obtain ⟨w2, hw2⟩ : ∃ w2, w.alloc (.cells #[.int .i64 x.pos, .int .i64 10, .int .i64 x.n, .string ⟨x.s.toArray⟩, .slice At x.t.length ct, .slice An x.names.length cn, .slice (some ⟨g0, off0, none⟩) x.parts.length cp] 39) = w2 := ⟨_, rfl⟩
 have hlv := Live.first h #[.int .i64 x.pos, .int .i64 10, .int .i64 x.n, .string ⟨x.s.toArray⟩, .slice At x.t.length ct, .slice An x.names.length cn, .slice (some ⟨g0, off0, none⟩) x.parts.length cp] 39 hw2
 rw [hL] at hlv
 have H2 := Lib.hid hlv
 clear hlv h
 clear hr ht hz hc hsh hrp hsz hsl htt hnn hp hn0 hn1 hkd ih hG hN hpe0 hmem0 hz0 hlt0 hss0 hpl hss hlen hq0 hfirst hqa hargs hszt hlist htl hV
 go_enter Tryz.func64, Tryz.ntmps64
 obtain ⟨x0, x1, x2, x3, x4, x5, x6⟩ := zbZ H2.out.b1
 obtain ⟨hl1, hl2, hbl⟩ := H2.out.lt
 obtain ⟨dg, d0, d1, d2, d3, d4, d5, d6⟩ := HC0.out w2 H2.out.wr.below
 rw [Nat.zero_mul, Nat.add_zero] at d0 d1 d2 d3 d4 d5 d6
 go_upto_region 24 with (go_at_call 116; refine (HA.out _ w2 HTY0.out H2.out.wr).mono ?_; rintro e w3 ⟨rfl, hW3, hk3⟩)
 have H3 := Lib.hid (H2.out.go oEx oEx hW3 hk3)
 clear hW3 hk3
 clear x0 x1 x2 x3 x4 x5 x6 hl1 hl2 hbl d0 d1 d2 d3 d4 d5 d6 dg
 obtain ⟨x0, x1, x2, x3, x4, x5, x6⟩ := zbZ H3.out.b1
 obtain ⟨hl1, hl2, hbl⟩ := H3.out.lt
 obtain ⟨dg, d0, d1, d2, d3, d4, d5, d6⟩ := HC0.out w3 H3.out.wr.below
 rw [Nat.zero_mul, Nat.add_zero] at d0 d1 d2 d3 d4 d5 d6
 go_upto_region 24 with fail
 have HD3 := Lib.hid H3.out.drew
 go_region_with (go_at_call 100; refine (HD3.out.lput2 [46] x.s ⟨by simp, by simp⟩ HSS.out hb).mono ?_; rintro e w4 ⟨rfl, hW4, hk4⟩)
 have H4 := Lib.hid (HD3.out.go oEx oEx hW4 hk4)
 clear hW4 hk4
 clear x0 x1 x2 x3 x4 x5 x6 hl1 hl2 hbl d0 d1 d2 d3 d4 d5 d6 dg
 obtain ⟨x0, x1, x2, x3, x4, x5, x6⟩ := zbZ H4.out.b1
 obtain ⟨hl1, hl2, hbl⟩ := H4.out.lt
 obtain ⟨dg, d0, d1, d2, d3, d4, d5, d6⟩ := HC0.out w4 H4.out.wr.below
 rw [Nat.zero_mul, Nat.add_zero] at d0 d1 d2 d3 d4 d5 d6
 go_wp2_with (go_at_call 117; refine (HLI.out w4 H4.out.wr).mono ?_; rintro e w5 ⟨rfl, hW5, hk5⟩)
 have H5 := Lib.hid (H4.out.go oEx oEx hW5 hk5)
 clear hW5 hk5
 clear x0 x1 x2 x3 x4 x5 x6 hl1 hl2 hbl d0 d1 d2 d3 d4 d5 d6 dg
 go_end0
 refine ⟨rfl, ?_, H5.out.kp⟩
 have h9 := H5.out.wr
 simpa [List.append_assoc] using h9
set_option maxRecDepth 100000 in
set_option maxHeartbeats 8000000 in
theorem zkcZ {W0 : World} {b : Nat} {x : Sx.Ex} (ih : ∀ p ∈ x.parts, ExprOk W0 b p) (hG : GS W0) (hN : NG ≤ W0.heap.size) (hkd : x.kind = 11) : ExprOk W0 b x := by
 intro v l w hr ht hz h hc
 obtain ⟨hsh, hrp⟩ := hr.shape
 have hsz := Sx.sizeX_parts x
 have hsl := Sx.textX_len x
 rw [Sx.expr_eq, hkd] at hc ⊢
 rw [hkd] at hsh
 simp only [Int.reduceEq, if_true, if_false, or_false, false_or, or_true, true_or, reduceIte, Nat.reduceEqDiff] at hc ⊢
 simp [Sx.shapeX] at hsh
 have hpl : 1 ≤ x.parts.length := by have := hsh; omega
 have hlt0 : 0 < x.parts.length := by omega
 obtain ⟨At, ct, An, cn, Ap, cp, rfl, htt, hnn, hp, hn0, hn1⟩ := ht.agg
 rw [hkd]
 obtain ⟨g0, off0, At0, ct0, An0, cn0, Ap0, cp0, hA0, hty0, hc0⟩ := hp.spot 0 hlt0
 obtain ⟨p0, hpe0⟩ : ∃ p, x.parts[0]'hlt0 = p := ⟨_, rfl⟩
 have hmem0 : p0 ∈ x.parts := by rw [← hpe0]; exact List.getElem_mem hlt0
 rw [hpe0] at hc0 hty0
 have hz0 : Sx.sizeX p0 ≤ 1000000 := by have := Sx.sizeX_mem hmem0; omega
 have hlti0 : (0 : Int) < (x.parts.length : Int) := by omega
 have HC0 := Lib.hid hc0
 have HTY0 := Lib.hid hty0
 clear hc0 hty0
 subst hA0
 obtain ⟨V, hV⟩ : ∃ V, sliced (some ⟨g0, off0, none⟩) 1 x.parts.length cp 7 = V := ⟨_, rfl⟩
 have hrun : ∀ w, (Instr.slice 37 (.slice (some ⟨g0, off0, none⟩) x.parts.length cp) (some (.int .i64 1)) none none).run Tryz.prog w = .ok V w := fun w => by rw [zhiZ _ _ _ _ (by omega), hV]
 have htl := hp.tail hlt0
 rw [hV] at htl
 have hlist := synList (b := b) (xs := x.parts.tail) (fun p hm => ih p (List.mem_of_mem_tail hm))
 have hszt : Sx.sizeXs x.parts.tail ≤ 1000000 := by have := Sx.sizeXs_tail x.parts; omega
 obtain ⟨qa, hqa⟩ : ∃ q, Sx.listed x.parts.tail = q := ⟨_, rfl⟩
 have hargs := Sx.args_tail hlt0
 rw [hqa] at hargs
 have happ := Sx.applied_head hlt0
 rw [hpe0] at happ
 rw [hargs] at hc ⊢
 obtain ⟨kd0, hkd0⟩ : ∃ k, p0.kind = k := ⟨_, rfl⟩
 rw [hkd0] at happ
 have hli : (1 : Int) ≤ (x.parts.length : Int) := by omega
 by_cases h9 : kd0 = 9
 ·have b9 : (kd0 == 9) = true := by rw [beq_iff_eq]; exact h9
  rw [if_pos h9] at happ
  obtain ⟨q0, hq0⟩ : ∃ q, Sx.within p0 = q := ⟨_, rfl⟩
  rw [hq0] at happ
  rw [happ] at hc ⊢
  have hlen : l.length + (q0.length + qa.length) ≤ 900000000 := by simp at hc; omega
  have HA := Lib.hid (show ∀ u w, IsEx W0 u p0 → Wrote W0 b l.length l w → Calls Tryz.prog 118 #[.pointer (some ⟨b, 0, none⟩), u] w fun e w' => e = .returned (.tuple #[]) ∧ Wrote W0 b (l ++ q0).length (l ++ q0) w' ∧ KeepW w w' from fun u w hu hw => by
   have := zfuZ (ih p0 hmem0) u l w (hrp p0 hmem0) hu hz0 hw (by rw [hq0]; omega)
   rw [hq0] at this
   exact this)
  have HLI := Lib.hid (show ∀ w, Wrote W0 b (l ++ q0).length (l ++ q0) w → Calls Tryz.prog 117 #[.pointer (some ⟨b, 0, none⟩), V] w fun e w' => e = .returned (.tuple #[]) ∧ Wrote W0 b (l ++ q0 ++ qa).length (l ++ q0 ++ qa) w' ∧ KeepW w w' from fun w hw => by
   have := hlist V (l ++ q0) w (fun p hm => hrp p (List.mem_of_mem_tail hm)) htl hszt hw (by rw [hqa]; (try simp); omega)
   rw [hqa] at this
   exact this)
  rw [hkd0] at HC0 HTY0
  obtain ⟨L, hL⟩ : ∃ L, w.heap.size = L := ⟨_, rfl⟩
  obtain ⟨w2, hw2⟩ : ∃ w2, w.alloc (.cells #[.int .i64 x.pos, .int .i64 11, .int .i64 x.n, .string ⟨x.s.toArray⟩, .slice At x.t.length ct, .slice An x.names.length cn, .slice (some ⟨g0, off0, none⟩) x.parts.length cp] 39) = w2 := ⟨_, rfl⟩
  have hlv := Live.first h #[.int .i64 x.pos, .int .i64 11, .int .i64 x.n, .string ⟨x.s.toArray⟩, .slice At x.t.length ct, .slice An x.names.length cn, .slice (some ⟨g0, off0, none⟩) x.parts.length cp] 39 hw2
  rw [hL] at hlv
  have H2 := Lib.hid hlv
  clear hlv h
  clear hr ht hz hc hsh hrp hsz hsl htt hnn hp hn0 hn1 hkd ih hG hN hpe0 hmem0 hz0 hlt0 hpl hlen hq0 happ hqa hargs hszt hlist htl hV hkd0 h9
  go_enter Tryz.func64, Tryz.ntmps64
  obtain ⟨x0, x1, x2, x3, x4, x5, x6⟩ := zbZ H2.out.b1
  obtain ⟨hl1, hl2, hbl⟩ := H2.out.lt
  obtain ⟨dg, d0, d1, d2, d3, d4, d5, d6⟩ := HC0.out w2 H2.out.wr.below
  rw [Nat.zero_mul, Nat.add_zero] at d0 d1 d2 d3 d4 d5 d6
  go_upto_region 30 with (go_at_call 118; refine (HA.out _ w2 HTY0.out H2.out.wr).mono ?_; rintro e w3 ⟨rfl, hW3, hk3⟩)
  have H3 := Lib.hid (H2.out.go oEx oEx hW3 hk3)
  clear hW3 hk3
  clear x0 x1 x2 x3 x4 x5 x6 hl1 hl2 hbl d0 d1 d2 d3 d4 d5 d6 dg
  obtain ⟨x0, x1, x2, x3, x4, x5, x6⟩ := zbZ H3.out.b1
  obtain ⟨hl1, hl2, hbl⟩ := H3.out.lt
  obtain ⟨dg, d0, d1, d2, d3, d4, d5, d6⟩ := HC0.out w3 H3.out.wr.below
  rw [Nat.zero_mul, Nat.add_zero] at d0 d1 d2 d3 d4 d5 d6
  go_wp2_with (go_at_call 117; refine (HLI.out w3 H3.out.wr).mono ?_; rintro e w4 ⟨rfl, hW4, hk4⟩)
  have H4 := Lib.hid (H3.out.go oEx oEx hW4 hk4)
  clear hW4 hk4
  clear x0 x1 x2 x3 x4 x5 x6 hl1 hl2 hbl d0 d1 d2 d3 d4 d5 d6 dg
  go_end0
  refine ⟨rfl, ?_, H4.out.kp⟩
  have h9 := H4.out.wr
  simpa [List.append_assoc] using h9
 ·have b9 : (kd0 == 9) = false := by rw [beq_eq_false_iff_ne]; exact h9
  rw [if_neg h9] at happ
  obtain ⟨q0, hq0⟩ : ∃ q, Sx.part 7 p0 = q := ⟨_, rfl⟩
  rw [hq0] at happ
  rw [happ] at hc ⊢
  have hlen : l.length + (q0.length + qa.length) ≤ 900000000 := by simp at hc; omega
  have HA := Lib.hid (show ∀ u w, IsEx W0 u p0 → Wrote W0 b (l).length (l) w → Calls Tryz.prog 116 #[.pointer (some ⟨b, 0, none⟩), u, .int .i64 (7)] w fun e w' => e = .returned (.tuple #[]) ∧ Wrote W0 b (l ++ q0).length (l ++ q0) w' ∧ KeepW w w' from fun u w hu hw => by
   have := synPart (ih p0 hmem0) (7) (by omega) (hrp p0 hmem0).kind.1 (hrp p0 hmem0).kind.2 u (l) w (hrp p0 hmem0) hu hz0 hw (by rw [hq0]; (try simp); omega)
   rw [hq0] at this
   exact this)
  have HLI := Lib.hid (show ∀ w, Wrote W0 b (l ++ q0).length (l ++ q0) w → Calls Tryz.prog 117 #[.pointer (some ⟨b, 0, none⟩), V] w fun e w' => e = .returned (.tuple #[]) ∧ Wrote W0 b (l ++ q0 ++ qa).length (l ++ q0 ++ qa) w' ∧ KeepW w w' from fun w hw => by
   have := hlist V (l ++ q0) w (fun p hm => hrp p (List.mem_of_mem_tail hm)) htl hszt hw (by rw [hqa]; (try simp); omega)
   rw [hqa] at this
   exact this)
  rw [hkd0] at HC0 HTY0
  obtain ⟨L, hL⟩ : ∃ L, w.heap.size = L := ⟨_, rfl⟩
  obtain ⟨w2, hw2⟩ : ∃ w2, w.alloc (.cells #[.int .i64 x.pos, .int .i64 11, .int .i64 x.n, .string ⟨x.s.toArray⟩, .slice At x.t.length ct, .slice An x.names.length cn, .slice (some ⟨g0, off0, none⟩) x.parts.length cp] 39) = w2 := ⟨_, rfl⟩
  have hlv := Live.first h #[.int .i64 x.pos, .int .i64 11, .int .i64 x.n, .string ⟨x.s.toArray⟩, .slice At x.t.length ct, .slice An x.names.length cn, .slice (some ⟨g0, off0, none⟩) x.parts.length cp] 39 hw2
  rw [hL] at hlv
  have H2 := Lib.hid hlv
  clear hlv h
  clear hr ht hz hc hsh hrp hsz hsl htt hnn hp hn0 hn1 hkd ih hG hN hpe0 hmem0 hz0 hlt0 hpl hlen hq0 happ hqa hargs hszt hlist htl hV hkd0 h9
  go_enter Tryz.func64, Tryz.ntmps64
  obtain ⟨x0, x1, x2, x3, x4, x5, x6⟩ := zbZ H2.out.b1
  obtain ⟨hl1, hl2, hbl⟩ := H2.out.lt
  obtain ⟨dg, d0, d1, d2, d3, d4, d5, d6⟩ := HC0.out w2 H2.out.wr.below
  rw [Nat.zero_mul, Nat.add_zero] at d0 d1 d2 d3 d4 d5 d6
  go_upto_region 30 with (go_at_call 116; refine (HA.out _ w2 HTY0.out H2.out.wr).mono ?_; rintro e w3 ⟨rfl, hW3, hk3⟩)
  have H3 := Lib.hid (H2.out.go oEx oEx hW3 hk3)
  clear hW3 hk3
  clear x0 x1 x2 x3 x4 x5 x6 hl1 hl2 hbl d0 d1 d2 d3 d4 d5 d6 dg
  obtain ⟨x0, x1, x2, x3, x4, x5, x6⟩ := zbZ H3.out.b1
  obtain ⟨hl1, hl2, hbl⟩ := H3.out.lt
  obtain ⟨dg, d0, d1, d2, d3, d4, d5, d6⟩ := HC0.out w3 H3.out.wr.below
  rw [Nat.zero_mul, Nat.add_zero] at d0 d1 d2 d3 d4 d5 d6
  go_wp2_with (go_at_call 117; refine (HLI.out w3 H3.out.wr).mono ?_; rintro e w4 ⟨rfl, hW4, hk4⟩)
  have H4 := Lib.hid (H3.out.go oEx oEx hW4 hk4)
  clear hW4 hk4
  clear x0 x1 x2 x3 x4 x5 x6 hl1 hl2 hbl d0 d1 d2 d3 d4 d5 d6 dg
  go_end0
  refine ⟨rfl, ?_, H4.out.kp⟩
  have h9 := H4.out.wr
  simpa [List.append_assoc] using h9
theorem zfcZ {W0 : World} {b : Nat} (hG : GS W0) (hN : NG ≤ W0.heap.size) : ∀ (n : Nat) (x : Sx.Ex), Sx.sizeX x ≤ n → ExprOk W0 b x := by
 intro n
 induction n with
 | zero => intro x h; have := Sx.sizeX_pos x; omega
 | succ n ihn =>
  intro x hx
  have ih : ∀ p ∈ x.parts, ExprOk W0 b p := fun p hp => ihn p (by
   have := Sx.sizeX_mem hp
   have := Sx.sizeX_parts x
   omega)
  intro v l w hr ht hz h hc
  have hk := hr.kind
  have : x.kind = 1 ∨ x.kind = 2 ∨ x.kind = 3 ∨ x.kind = 4 ∨ x.kind = 5 ∨ x.kind = 6 ∨ x.kind = 7 ∨ x.kind = 8 ∨ x.kind = 9 ∨ x.kind = 10 ∨ x.kind = 11 ∨ x.kind = 12 ∨ x.kind = 13 ∨ x.kind = 14 ∨ 15 ≤ x.kind := by omega
  rcases this with h1 | h1 | h1 | h1 | h1 | h1 | h1 | h1 | h1 | h1 | h1 | h1 | h1 | h1 | h1
  ·exact zmkZ ih hG hN h1 v l w hr ht hz h hc
  ·exact zmlZ ih hG hN h1 v l w hr ht hz h hc
  ·exact zmmZ ih hG hN h1 v l w hr ht hz h hc
  ·exact zmjZ ih hG hN h1 v l w hr ht hz h hc
  ·exact zmiZ ih hG hN h1 v l w hr ht hz h hc
  ·exact zmnZ ih hG hN h1 v l w hr ht hz h hc
  ·exact zmoZ ih hG hN h1 v l w hr ht hz h hc
  ·exact zmpZ ih hG hN h1 v l w hr ht hz h hc
  ·exact zmqZ ih hG hN h1 v l w hr ht hz h hc
  ·exact zkbZ ih hG hN h1 v l w hr ht hz h hc
  ·exact zkcZ ih hG hN h1 v l w hr ht hz h hc
  ·exact zjxZ ih hG hN h1 v l w hr ht hz h hc
  ·exact zjyZ ih hG hN h1 v l w hr ht hz h hc
  ·exact zjzZ ih hG hN h1 v l w hr ht hz h hc
  ·exact zkaZ ih h1 v l w hr ht hz h hc
end Go.Proofs.YtdncljdfmdgdaaaGreatDoor
namespace Go.Proofs.YtdncljdfmdgdaaaGreatDoor
open Go.RowKit Go.Shelf Go.WideMaps
set_option linter.unusedSimpArgs false
set_option linter.unusedVariables false
set_option maxRecDepth 100000 in
set_option maxHeartbeats 4000000 in
theorem synExpr (t : Sx.Ex) (v : Value) (W : World) (hG : GS W) (hN : NG ≤ W.heap.size) (ht : IsEx W v t) (hsz : Sx.sizeX t ≤ 1000000) (hlen : (Sx.expr SY t).length ≤ 900000000) :
  Calls Tryz.prog 23 #[v] W fun e W' => e = .returned (.tuple #[.string ⟨(Sx.said (Sx.rightX NM 64 t) (Sx.expr SY t)).1.toArray⟩, .int .i64 ((Sx.said (Sx.rightX NM 64 t) (Sx.expr SY t)).2 : Nat)]) ∧ Below W.heap.size W W' := by
 have hrt : ∀ X, Below W.heap.size W X → Calls Tryz.prog 63 #[v, .int .i64 64] X fun e W' => e = .returned (.bool (Sx.rightX NM 64 t)) ∧ Below X.heap.size X W' := fun X hb => zcfZ _ t (Nat.le_refl _) 64 (by omega) v X (hG.below hb) (Nat.le_trans hN hb.size) (IsEx.below hb t v ht) hsz
 have htyp := fun b w (hr : Sx.rightX NM 64 t = true) (h : Wrote W b 0 [] w) => zfcZ (b := b) hG hN _ t (Nat.le_refl _) v [] w ⟨64, hr⟩ ht hsz h (by simpa using hlen)
 obtain ⟨At, ct, An, cn, Ap, cp, rfl, -⟩ := ht.agg
 obtain ⟨L, hL⟩ : ∃ L, W.heap.size = L := ⟨_, rfl⟩
 obtain ⟨w2, hw2⟩ : ∃ w2, W.alloc (.cells #[.int .i64 t.pos, .int .i64 t.kind, .int .i64 t.n, .string ⟨t.s.toArray⟩, .slice At t.t.length ct, .slice An t.names.length cn, .slice Ap t.parts.length cp] 39) = w2 := ⟨_, rfl⟩
 have hbox : w2.heap[L]? = some (.cells #[.int .i64 t.pos, .int .i64 t.kind, .int .i64 t.n, .string ⟨t.s.toArray⟩, .slice At t.t.length ct, .slice An t.names.length cn, .slice Ap t.parts.length cp] 39 (0, 0)) := by rw [← hw2, ← hL]; exact heap_alloc_new W _
 have hb2 : Below W.heap.size W w2 := by rw [← hw2]; exact zdZ (World.grownBy_alloc W _ none)
 obtain ⟨K, hK⟩ : ∃ K, w2.heap.size = K := ⟨_, rfl⟩
 have hLK : L ≤ K ∧ L < K := by rw [← hK, ← hw2, ← hL]; simp
 obtain ⟨w3, hw3⟩ : ∃ w3, w2.alloc (.cells #[.pointer none, .slice none 0 0, .int .i64 0] 104) = w3 := ⟨_, rfl⟩
 have htree : w3.heap[K]? = some (.cells #[.pointer none, .slice none 0 0, .int .i64 0] 104 (0, 0)) := by rw [← hw3, ← hK]; exact heap_alloc_new w2 _
 have hg3 : Below w2.heap.size w2 w3 := by rw [← hw3]; exact zdZ (World.grownBy_alloc w2 _ none)
 have hb3 : Below W.heap.size W w3 := hb2.trans (hg3.mono hb2.size)
 have hbox3 := (hg3.block L (by omega)).trans hbox
 have hs3 : K < w3.heap.size := zaZ htree
 obtain ⟨x0, x1, x2, x3, x4, x5, x6⟩ := zbZ hbox3
 have hl3 := zaZ hbox3
 have HFR := Lib.hid (show ∀ w4, Below w3.heap.size w3 w4 → Wrote W K 0 [] w4 ∧ K < w4.heap.size ∧ w4.heap[L]? = w3.heap[L]? from fun w4 hb4 =>
  ⟨Wrote.fresh (by omega) ((hb4.block K hs3).trans htree) (hb3.trans (hb4.mono hb3.size)), Nat.lt_of_lt_of_le hs3 hb4.size, hb4.block L hl3⟩)
 have HRT := Lib.hid (hrt w3 hb3)
 have HTYP := Lib.hid htyp
 have HTREE := Lib.hid htree
 have HBOX3 := Lib.hid hbox3
 have HB3 := Lib.hid hb3
 have HL := Lib.hid hL
 have HLK := Lib.hid hLK
 have HSZ := Lib.hid hsz
 have HLN := Lib.hid hlen
 clear hLK hrt htyp ht hlen hbox hb2 hg3 hb3 hbox3 htree hG hsz
 cases hr : Sx.rightX NM 64 t with
 | false =>
  rw [hr] at HRT
  have HR := Lib.hid hr
  clear hr
  go_enter Tryz.func23, Tryz.ntmps23
  go_wp2_with (first
   | (go_at_call 63; refine HRT.out.mono ?_; rintro e w4 ⟨rfl, hb4⟩; obtain ⟨hW, hl4, -⟩ := HFR.out w4 hb4; have hW4 := Lib.hid hW; clear hb4 hW)
   | (go_at_call 60; refine (toldEnd hW4.out (by omega) false (fun _ => rfl)).mono ?_; rintro e w5 ⟨rfl, hb5⟩))
  refine bodyPost_ret (results_tmp2 rfl _ _ _) rfl ?_
  exact ⟨rfl, hb5⟩
 | true =>
  rw [hr] at HRT
  have HR := Lib.hid hr
  clear hr
  go_enter Tryz.func23, Tryz.ntmps23
  go_wp2_with (first
   | (go_at_call 63; refine HRT.out.mono ?_; rintro e w4 ⟨rfl, hb4⟩; obtain ⟨hW, hl4, hbl4⟩ := HFR.out w4 hb4; have hW4 := Lib.hid hW; have hbox4 := hbl4.trans HBOX3.out; clear hb4 hW hbl4 x0 x1 x2 x3 x4 x5 x6; obtain ⟨x0, x1, x2, x3, x4, x5, x6⟩ := zbZ hbox4; clear hbox4)
   | (go_at_call 64; refine (HTYP.out (K) w4 HR.out hW4.out).mono ?_; rintro e w5 ⟨rfl, h5, -⟩; have hl5 := h5.lt; have hW5 := Lib.hid h5; clear h5)
   | (go_at_call 60; refine (toldEnd hW5.out (by have := HLN.out; simp; omega) true (fun h => by cases h)).mono ?_; rintro e w6 ⟨rfl, hb6⟩))
  refine bodyPost_ret (results_tmp2 rfl _ _ _) rfl ?_
  exact ⟨rfl, hb6⟩
end Go.Proofs.YtdncljdfmdgdaaaGreatDoor
