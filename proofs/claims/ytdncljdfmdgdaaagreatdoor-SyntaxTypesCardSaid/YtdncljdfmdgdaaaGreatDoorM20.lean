/-
  The walk of sides.
-/
/-
 The walk of sides.
 The walk of expr: the kinds without parts.
-/
import Derived.Test.YtdncljdfmdgdaaaGreatDoorM17
import Derived.Test.YtdncljdfmdgdaaaGreatDoorM19
namespace Go.Proofs.YtdncljdfmdgdaaaGreatDoor
open Go.RowKit Go.Shelf Go.WideMaps
set_option linter.unusedSimpArgs false
set_option linter.unusedVariables false
theorem Sx.shape_kindX {N : Sx.Names} {k n : Int} {s : Lx.Bytes} {t : List Sx.Ty} {ns : List Lx.Bytes} {m : Nat} (h : Sx.shapeX N k n s t ns m = true) : 1 ≤ k ∧ k ≤ 21 := by
 unfold Sx.shapeX at h
 rw [Bool.and_eq_true] at h
 simpa using h.1
theorem Sx.okX.kind {x : Sx.Ex} (h : Sx.okX x) : 1 ≤ x.kind ∧ x.kind ≤ 21 := Sx.shape_kindX h.shape.1
theorem Sx.shape15 {k n : Int} {s : Lx.Bytes} {t : List Sx.Ty} {ns : List Lx.Bytes} {m : Nat} (hk : 15 ≤ k) (h : Sx.shapeX NM k n s t ns m = true) : m = 2 := by
 have hk2 := (Sx.shape_kindX h).2
 have : k = 15 ∨ k = 16 ∨ k = 17 ∨ k = 18 ∨ k = 19 ∨ k = 20 ∨ k = 21 := by omega
 rcases this with rfl | rfl | rfl | rfl | rfl | rfl | rfl <;> simp [Sx.shapeX] at h <;> exact h.2.2.2.2
theorem Sx.level15 {k : Int} (h1 : 15 ≤ k) (h2 : k ≤ 21) : 1 ≤ Sx.level k ∧ Sx.level k ≤ 5 := by
 have : k = 15 ∨ k = 16 ∨ k = 17 ∨ k = 18 ∨ k = 19 ∨ k = 20 ∨ k = 21 := by omega
 rcases this with rfl | rfl | rfl | rfl | rfl | rfl | rfl <;> exact ⟨by decide, by decide⟩
theorem Sx.sign_ok (k : Int) : Sx.sign k ≠ [] ∧ (Sx.sign k).length ≤ 1000000000 := by
 unfold Sx.sign
 (repeat' split) <;> exact ⟨by simp, by simp⟩
def Sx.sided (x : Sx.Ex) : List Lx.Bytes := Sx.first SY (if Sx.level x.kind = 3 then 4 else Sx.level x.kind) x.parts ++ [Sx.sign x.kind] ++ Sx.second SY (Sx.level x.kind + 1) x.parts
def SidesOk (W0 : World) (b : Nat) (x : Sx.Ex) : Prop := ∀ (v : Value) (l : List Lx.Bytes) (w : World), Sx.okX x → IsEx W0 v x → Sx.sizeX x ≤ 1000000 → Wrote W0 b l.length l w → l.length + (Sx.sided x).length ≤ 900000000 →
 Calls Tryz.prog 119 #[.pointer (some ⟨b, 0, none⟩), v] w fun e w' => e = .returned (.tuple #[]) ∧ Wrote W0 b (l ++ Sx.sided x).length (l ++ Sx.sided x) w' ∧ KeepW w w'
set_option maxRecDepth 100000 in
set_option maxHeartbeats 8000000 in
theorem zjvZ {W0 : World} {b : Nat} {x : Sx.Ex} (ih : ∀ p ∈ x.parts, ExprOk W0 b p) (h15 : 15 ≤ x.kind) (h3 : Sx.level x.kind = 3) : SidesOk W0 b x := by
 intro v l w hr ht hz h hc
 obtain ⟨hsh, hrp⟩ := hr.shape
 have hm2 := Sx.shape15 h15 hsh
 have h21 := hr.kind.2
 have hlev := Sx.level15 h15 h21
 have hsg := Sx.sign_ok x.kind
 have hsz := Sx.sizeX_parts x
 have hlt0 : 0 < x.parts.length := by omega
 have hlt1 : 1 < x.parts.length := by omega
 obtain ⟨At, ct, An, cn, Ap, cp, rfl, -, -, hp, -⟩ := ht.agg
 obtain ⟨g0, off0, At0, ct0, An0, cn0, Ap0, cp0, hA0, hty0, hc0⟩ := hp.spot 0 hlt0
 obtain ⟨p0, hpe0⟩ : ∃ p, x.parts[0]'hlt0 = p := ⟨_, rfl⟩
 have hmem0 : p0 ∈ x.parts := by rw [← hpe0]; exact List.getElem_mem hlt0
 rw [hpe0] at hc0 hty0
 have hz0 : Sx.sizeX p0 ≤ 1000000 := by have := Sx.sizeX_mem hmem0; omega
 have hlti0 : (0 : Int) < (x.parts.length : Int) := by omega
 have HC0 := Lib.hid hc0
 have HTY0 := Lib.hid hty0
 clear hc0 hty0
 obtain ⟨g1, off1, At1, ct1, An1, cn1, Ap1, cp1, hA1, hty1, hc1⟩ := hp.spot 1 hlt1
 obtain ⟨p1, hpe1⟩ : ∃ p, x.parts[1]'hlt1 = p := ⟨_, rfl⟩
 have hmem1 : p1 ∈ x.parts := by rw [← hpe1]; exact List.getElem_mem hlt1
 rw [hpe1] at hc1 hty1
 have hz1 : Sx.sizeX p1 ≤ 1000000 := by have := Sx.sizeX_mem hmem1; omega
 have hlti1 : (1 : Int) < (x.parts.length : Int) := by omega
 have HC1 := Lib.hid hc1
 have HTY1 := Lib.hid hty1
 clear hc1 hty1
 subst hA0
 injection hA1 with hA1
 injection hA1 with e1 e2
 subst e1 e2
 have hk := fun w => zejZ x.kind w (by omega) h21
 have hsn := fun w => synSign x.kind w h15 h21
 obtain ⟨sg, hsge⟩ : ∃ sg, Sx.sign x.kind = sg := ⟨_, rfl⟩
 obtain ⟨n, hn⟩ : ∃ n, Sx.level x.kind = n := ⟨_, rfl⟩
 rw [hn] at hk hlev h3
 rw [hsge] at hsn hsg
 have hn0 : (0 : Int) ≤ (n : Int) := by omega
 have hn5 : (n : Int) ≤ 5 := by omega
 have hsd : Sx.sided x = Sx.part (n + 1) p0 ++ [sg] ++ Sx.part (n + 1) p1 := by
  unfold Sx.sided
  rw [hn, hsge, Sx.first_head _ hlt0, Sx.second_head _ hlt1, hpe0, hpe1, if_pos h3]
  rw [h3]
 obtain ⟨q0, hq0⟩ : ∃ q, Sx.part (n + 1) p0 = q := ⟨_, rfl⟩
 obtain ⟨q1, hq1⟩ : ∃ q, Sx.part (n + 1) p1 = q := ⟨_, rfl⟩
 rw [hq0, hq1] at hsd
 have hlen : l.length + (q0.length + 1 + q1.length) ≤ 900000000 := by rw [hsd] at hc; simp at hc; omega
 have HA := Lib.hid (show ∀ u w, IsEx W0 u p0 → Wrote W0 b (l).length (l) w → Calls Tryz.prog 116 #[.pointer (some ⟨b, 0, none⟩), u, .int .i64 ((n : Int) + 1)] w fun e w' => e = .returned (.tuple #[]) ∧ Wrote W0 b (l ++ q0).length (l ++ q0) w' ∧ KeepW w w' from fun u w hu hw => by
  have := synPart (ih p0 hmem0) (n + 1) (by omega) (hrp p0 hmem0).kind.1 (hrp p0 hmem0).kind.2 u (l) w (hrp p0 hmem0) hu hz0 hw (by rw [hq0]; (try simp); omega)
  rw [hq0] at this
  exact this)
 have HB := Lib.hid (show ∀ u w, IsEx W0 u p1 → Wrote W0 b (l ++ q0 ++ [sg]).length (l ++ q0 ++ [sg]) w → Calls Tryz.prog 116 #[.pointer (some ⟨b, 0, none⟩), u, .int .i64 ((n : Int) + 1)] w fun e w' => e = .returned (.tuple #[]) ∧ Wrote W0 b (l ++ q0 ++ [sg] ++ q1).length (l ++ q0 ++ [sg] ++ q1) w' ∧ KeepW w w' from fun u w hu hw => by
  have := synPart (ih p1 hmem1) (n + 1) (by omega) (hrp p1 hmem1).kind.1 (hrp p1 hmem1).kind.2 u (l ++ q0 ++ [sg]) w (hrp p1 hmem1) hu hz1 hw (by rw [hq1]; (try simp); omega)
  rw [hq1] at this
  exact this)
 have hb1 : (l ++ q0).length + 1 ≤ 1000000000 := by simp; omega
 obtain ⟨L, hL⟩ : ∃ L, w.heap.size = L := ⟨_, rfl⟩
 obtain ⟨w2, hw2⟩ : ∃ w2, w.alloc (.cells #[.int .i64 x.pos, .int .i64 x.kind, .int .i64 x.n, .string ⟨x.s.toArray⟩, .slice At x.t.length ct, .slice An x.names.length cn, .slice (some ⟨g0, off0, none⟩) x.parts.length cp] 39) = w2 := ⟨_, rfl⟩
 have hlv := Live.first h #[.int .i64 x.pos, .int .i64 x.kind, .int .i64 x.n, .string ⟨x.s.toArray⟩, .slice At x.t.length ct, .slice An x.names.length cn, .slice (some ⟨g0, off0, none⟩) x.parts.length cp] 39 hw2
 rw [hL] at hlv
 have H2 := Lib.hid hlv
 clear hlv h
 have e3 : ((n : Int) == 3) = true := by rw [beq_iff_eq]; omega
 have HK := Lib.hid hk
 have HSN := Lib.hid hsn
 have HSG := Lib.hid hsg
 have HSD := Lib.hid hsd
 obtain ⟨kd, hkd⟩ : ∃ kd, x.kind = kd := ⟨_, rfl⟩
 rw [hkd] at HK HSN H2
 clear hk hsn hsg hsd hsge hn hlev h3 hm2 hsh h15 h21 hsz hq0 hq1 hpe0 hpe1 hz hz0 hz1 hc ih hr hrp ht hp hlen hkd hmem0 hmem1 hlt0 hlt1
 go_enter Tryz.func119, Tryz.ntmps119
 obtain ⟨x0, x1, x2, x3, x4, x5, x6⟩ := zbZ H2.out.b1
 obtain ⟨hl1, hl2, hbl⟩ := H2.out.lt
 obtain ⟨dg, d0, d1, d2, d3, d4, d5, d6⟩ := HC0.out w2 H2.out.wr.below
 rw [Nat.zero_mul, Nat.add_zero] at d0 d1 d2 d3 d4 d5 d6
 obtain ⟨eg, e0, e1, e2, e3, e4, e5, e6⟩ := HC1.out w2 H2.out.wr.below
 rw [Nat.one_mul] at e0 e1 e2 e3 e4 e5 e6
 go_upto_region 6 with (first | (go_at_call 136; refine (HK.out w2).mono ?_; rintro e w' ⟨rfl, rfl⟩) | (go_at_call 116; refine (HA.out _ w2 HTY0.out H2.out.wr).mono ?_; rintro e w3 ⟨rfl, hW3, hk3⟩))
 have H3 := Lib.hid (H2.out.go oEx oEx hW3 hk3)
 clear hW3 hk3
 clear x0 x1 x2 x3 x4 x5 x6 hl1 hl2 hbl d0 d1 d2 d3 d4 d5 d6 dg e0 e1 e2 e3 e4 e5 e6 eg
 obtain ⟨x0, x1, x2, x3, x4, x5, x6⟩ := zbZ H3.out.b1
 obtain ⟨hl1, hl2, hbl⟩ := H3.out.lt
 obtain ⟨dg, d0, d1, d2, d3, d4, d5, d6⟩ := HC0.out w3 H3.out.wr.below
 rw [Nat.zero_mul, Nat.add_zero] at d0 d1 d2 d3 d4 d5 d6
 obtain ⟨eg, e0, e1, e2, e3, e4, e5, e6⟩ := HC1.out w3 H3.out.wr.below
 rw [Nat.one_mul] at e0 e1 e2 e3 e4 e5 e6
 go_upto_region 6 with fail
 have HD3 := Lib.hid H3.out.drew
 go_region_with (first | (go_at_call 137; refine (HSN.out _).mono ?_; rintro e w' ⟨rfl, rfl⟩) | (go_at_call 100; refine (HD3.out.lput1 sg HSG.out hb1).mono ?_; rintro e w4 ⟨rfl, hW4, hk4⟩))
 have H4 := Lib.hid (HD3.out.go oEx oEx hW4 hk4)
 clear hW4 hk4
 clear x0 x1 x2 x3 x4 x5 x6 hl1 hl2 hbl d0 d1 d2 d3 d4 d5 d6 dg e0 e1 e2 e3 e4 e5 e6 eg
 obtain ⟨x0, x1, x2, x3, x4, x5, x6⟩ := zbZ H4.out.b1
 obtain ⟨hl1, hl2, hbl⟩ := H4.out.lt
 obtain ⟨dg, d0, d1, d2, d3, d4, d5, d6⟩ := HC0.out w4 H4.out.wr.below
 rw [Nat.zero_mul, Nat.add_zero] at d0 d1 d2 d3 d4 d5 d6
 obtain ⟨eg, e0, e1, e2, e3, e4, e5, e6⟩ := HC1.out w4 H4.out.wr.below
 rw [Nat.one_mul] at e0 e1 e2 e3 e4 e5 e6
 go_wp2_with (go_at_call 116; refine (HB.out _ w4 HTY1.out H4.out.wr).mono ?_; rintro e w5 ⟨rfl, hW5, hk5⟩)
 have H5 := Lib.hid (H4.out.go oEx oEx hW5 hk5)
 clear hW5 hk5
 clear x0 x1 x2 x3 x4 x5 x6 hl1 hl2 hbl d0 d1 d2 d3 d4 d5 d6 dg e0 e1 e2 e3 e4 e5 e6 eg
 go_end0
 refine ⟨rfl, ?_, H5.out.kp⟩
 rw [HSD.out]
 simpa [List.append_assoc] using H5.out.wr
set_option maxRecDepth 100000 in
set_option maxHeartbeats 8000000 in
theorem zjwZ {W0 : World} {b : Nat} {x : Sx.Ex} (ih : ∀ p ∈ x.parts, ExprOk W0 b p) (h15 : 15 ≤ x.kind) (h3 : ¬ Sx.level x.kind = 3) : SidesOk W0 b x := by
 intro v l w hr ht hz h hc
 obtain ⟨hsh, hrp⟩ := hr.shape
 have hm2 := Sx.shape15 h15 hsh
 have h21 := hr.kind.2
 have hlev := Sx.level15 h15 h21
 have hsg := Sx.sign_ok x.kind
 have hsz := Sx.sizeX_parts x
 have hlt0 : 0 < x.parts.length := by omega
 have hlt1 : 1 < x.parts.length := by omega
 obtain ⟨At, ct, An, cn, Ap, cp, rfl, -, -, hp, -⟩ := ht.agg
 obtain ⟨g0, off0, At0, ct0, An0, cn0, Ap0, cp0, hA0, hty0, hc0⟩ := hp.spot 0 hlt0
 obtain ⟨p0, hpe0⟩ : ∃ p, x.parts[0]'hlt0 = p := ⟨_, rfl⟩
 have hmem0 : p0 ∈ x.parts := by rw [← hpe0]; exact List.getElem_mem hlt0
 rw [hpe0] at hc0 hty0
 have hz0 : Sx.sizeX p0 ≤ 1000000 := by have := Sx.sizeX_mem hmem0; omega
 have hlti0 : (0 : Int) < (x.parts.length : Int) := by omega
 have HC0 := Lib.hid hc0
 have HTY0 := Lib.hid hty0
 clear hc0 hty0
 obtain ⟨g1, off1, At1, ct1, An1, cn1, Ap1, cp1, hA1, hty1, hc1⟩ := hp.spot 1 hlt1
 obtain ⟨p1, hpe1⟩ : ∃ p, x.parts[1]'hlt1 = p := ⟨_, rfl⟩
 have hmem1 : p1 ∈ x.parts := by rw [← hpe1]; exact List.getElem_mem hlt1
 rw [hpe1] at hc1 hty1
 have hz1 : Sx.sizeX p1 ≤ 1000000 := by have := Sx.sizeX_mem hmem1; omega
 have hlti1 : (1 : Int) < (x.parts.length : Int) := by omega
 have HC1 := Lib.hid hc1
 have HTY1 := Lib.hid hty1
 clear hc1 hty1
 subst hA0
 injection hA1 with hA1
 injection hA1 with e1 e2
 subst e1 e2
 have hk := fun w => zejZ x.kind w (by omega) h21
 have hsn := fun w => synSign x.kind w h15 h21
 obtain ⟨sg, hsge⟩ : ∃ sg, Sx.sign x.kind = sg := ⟨_, rfl⟩
 obtain ⟨n, hn⟩ : ∃ n, Sx.level x.kind = n := ⟨_, rfl⟩
 rw [hn] at hk hlev h3
 rw [hsge] at hsn hsg
 have hn0 : (0 : Int) ≤ (n : Int) := by omega
 have hn5 : (n : Int) ≤ 5 := by omega
 have hsd : Sx.sided x = Sx.part (n) p0 ++ [sg] ++ Sx.part (n + 1) p1 := by
  unfold Sx.sided
  rw [hn, hsge, Sx.first_head _ hlt0, Sx.second_head _ hlt1, hpe0, hpe1, if_neg h3]
 obtain ⟨q0, hq0⟩ : ∃ q, Sx.part (n) p0 = q := ⟨_, rfl⟩
 obtain ⟨q1, hq1⟩ : ∃ q, Sx.part (n + 1) p1 = q := ⟨_, rfl⟩
 rw [hq0, hq1] at hsd
 have hlen : l.length + (q0.length + 1 + q1.length) ≤ 900000000 := by rw [hsd] at hc; simp at hc; omega
 have HA := Lib.hid (show ∀ u w, IsEx W0 u p0 → Wrote W0 b (l).length (l) w → Calls Tryz.prog 116 #[.pointer (some ⟨b, 0, none⟩), u, .int .i64 (n)] w fun e w' => e = .returned (.tuple #[]) ∧ Wrote W0 b (l ++ q0).length (l ++ q0) w' ∧ KeepW w w' from fun u w hu hw => by
  have := synPart (ih p0 hmem0) (n) (by omega) (hrp p0 hmem0).kind.1 (hrp p0 hmem0).kind.2 u (l) w (hrp p0 hmem0) hu hz0 hw (by rw [hq0]; (try simp); omega)
  rw [hq0] at this
  exact this)
 have HB := Lib.hid (show ∀ u w, IsEx W0 u p1 → Wrote W0 b (l ++ q0 ++ [sg]).length (l ++ q0 ++ [sg]) w → Calls Tryz.prog 116 #[.pointer (some ⟨b, 0, none⟩), u, .int .i64 ((n : Int) + 1)] w fun e w' => e = .returned (.tuple #[]) ∧ Wrote W0 b (l ++ q0 ++ [sg] ++ q1).length (l ++ q0 ++ [sg] ++ q1) w' ∧ KeepW w w' from fun u w hu hw => by
  have := synPart (ih p1 hmem1) (n + 1) (by omega) (hrp p1 hmem1).kind.1 (hrp p1 hmem1).kind.2 u (l ++ q0 ++ [sg]) w (hrp p1 hmem1) hu hz1 hw (by rw [hq1]; (try simp); omega)
  rw [hq1] at this
  exact this)
 have hb1 : (l ++ q0).length + 1 ≤ 1000000000 := by simp; omega
 obtain ⟨L, hL⟩ : ∃ L, w.heap.size = L := ⟨_, rfl⟩
 obtain ⟨w2, hw2⟩ : ∃ w2, w.alloc (.cells #[.int .i64 x.pos, .int .i64 x.kind, .int .i64 x.n, .string ⟨x.s.toArray⟩, .slice At x.t.length ct, .slice An x.names.length cn, .slice (some ⟨g0, off0, none⟩) x.parts.length cp] 39) = w2 := ⟨_, rfl⟩
 have hlv := Live.first h #[.int .i64 x.pos, .int .i64 x.kind, .int .i64 x.n, .string ⟨x.s.toArray⟩, .slice At x.t.length ct, .slice An x.names.length cn, .slice (some ⟨g0, off0, none⟩) x.parts.length cp] 39 hw2
 rw [hL] at hlv
 have H2 := Lib.hid hlv
 clear hlv h
 have e3 : ((n : Int) == 3) = false := by rw [beq_eq_false_iff_ne]; omega
 have HK := Lib.hid hk
 have HSN := Lib.hid hsn
 have HSG := Lib.hid hsg
 have HSD := Lib.hid hsd
 obtain ⟨kd, hkd⟩ : ∃ kd, x.kind = kd := ⟨_, rfl⟩
 rw [hkd] at HK HSN H2
 clear hk hsn hsg hsd hsge hn hlev h3 hm2 hsh h15 h21 hsz hq0 hq1 hpe0 hpe1 hz hz0 hz1 hc ih hr hrp ht hp hlen hkd hmem0 hmem1 hlt0 hlt1
 go_enter Tryz.func119, Tryz.ntmps119
 obtain ⟨x0, x1, x2, x3, x4, x5, x6⟩ := zbZ H2.out.b1
 obtain ⟨hl1, hl2, hbl⟩ := H2.out.lt
 obtain ⟨dg, d0, d1, d2, d3, d4, d5, d6⟩ := HC0.out w2 H2.out.wr.below
 rw [Nat.zero_mul, Nat.add_zero] at d0 d1 d2 d3 d4 d5 d6
 obtain ⟨eg, e0, e1, e2, e3, e4, e5, e6⟩ := HC1.out w2 H2.out.wr.below
 rw [Nat.one_mul] at e0 e1 e2 e3 e4 e5 e6
 go_upto_region 6 with (first | (go_at_call 136; refine (HK.out w2).mono ?_; rintro e w' ⟨rfl, rfl⟩) | (go_at_call 116; refine (HA.out _ w2 HTY0.out H2.out.wr).mono ?_; rintro e w3 ⟨rfl, hW3, hk3⟩))
 have H3 := Lib.hid (H2.out.go oEx oEx hW3 hk3)
 clear hW3 hk3
 clear x0 x1 x2 x3 x4 x5 x6 hl1 hl2 hbl d0 d1 d2 d3 d4 d5 d6 dg e0 e1 e2 e3 e4 e5 e6 eg
 obtain ⟨x0, x1, x2, x3, x4, x5, x6⟩ := zbZ H3.out.b1
 obtain ⟨hl1, hl2, hbl⟩ := H3.out.lt
 obtain ⟨dg, d0, d1, d2, d3, d4, d5, d6⟩ := HC0.out w3 H3.out.wr.below
 rw [Nat.zero_mul, Nat.add_zero] at d0 d1 d2 d3 d4 d5 d6
 obtain ⟨eg, e0, e1, e2, e3, e4, e5, e6⟩ := HC1.out w3 H3.out.wr.below
 rw [Nat.one_mul] at e0 e1 e2 e3 e4 e5 e6
 go_upto_region 6 with fail
 have HD3 := Lib.hid H3.out.drew
 go_region_with (first | (go_at_call 137; refine (HSN.out _).mono ?_; rintro e w' ⟨rfl, rfl⟩) | (go_at_call 100; refine (HD3.out.lput1 sg HSG.out hb1).mono ?_; rintro e w4 ⟨rfl, hW4, hk4⟩))
 have H4 := Lib.hid (HD3.out.go oEx oEx hW4 hk4)
 clear hW4 hk4
 clear x0 x1 x2 x3 x4 x5 x6 hl1 hl2 hbl d0 d1 d2 d3 d4 d5 d6 dg e0 e1 e2 e3 e4 e5 e6 eg
 obtain ⟨x0, x1, x2, x3, x4, x5, x6⟩ := zbZ H4.out.b1
 obtain ⟨hl1, hl2, hbl⟩ := H4.out.lt
 obtain ⟨dg, d0, d1, d2, d3, d4, d5, d6⟩ := HC0.out w4 H4.out.wr.below
 rw [Nat.zero_mul, Nat.add_zero] at d0 d1 d2 d3 d4 d5 d6
 obtain ⟨eg, e0, e1, e2, e3, e4, e5, e6⟩ := HC1.out w4 H4.out.wr.below
 rw [Nat.one_mul] at e0 e1 e2 e3 e4 e5 e6
 go_wp2_with (go_at_call 116; refine (HB.out _ w4 HTY1.out H4.out.wr).mono ?_; rintro e w5 ⟨rfl, hW5, hk5⟩)
 have H5 := Lib.hid (H4.out.go oEx oEx hW5 hk5)
 clear hW5 hk5
 clear x0 x1 x2 x3 x4 x5 x6 hl1 hl2 hbl d0 d1 d2 d3 d4 d5 d6 dg e0 e1 e2 e3 e4 e5 e6 eg
 go_end0
 refine ⟨rfl, ?_, H5.out.kp⟩
 rw [HSD.out]
 simpa [List.append_assoc] using H5.out.wr
theorem zmfZ {W0 : World} {b : Nat} {x : Sx.Ex} (ih : ∀ p ∈ x.parts, ExprOk W0 b p) (h15 : 15 ≤ x.kind) : SidesOk W0 b x := by
 by_cases h3 : Sx.level x.kind = 3
 ·exact zjvZ ih h15 h3
 ·exact zjwZ ih h15 h3
end Go.Proofs.YtdncljdfmdgdaaaGreatDoor
namespace Go.Proofs.YtdncljdfmdgdaaaGreatDoor
open Go.RowKit Go.Shelf Go.WideMaps
set_option linter.unusedSimpArgs false
set_option linter.unusedVariables false
set_option maxRecDepth 100000 in
theorem zhiZ (a : Option Addr) (len cap : Nat) (w : World) (h : 1 ≤ len) :
  (Instr.slice 37 (.slice a len cap) (some (.int .i64 1)) none none).run Tryz.prog w = .ok (sliced a 1 len cap 7) w := by
 have hs : (sizeOf (Tryz.prog.elem 37)).run Tryz.prog w = .ok 7 w := by kernel_rfl
 rw [run_slice_l (P := Tryz.prog) w 37 a len cap Tryz.underlying37 .i64 1 (by omega) (by omega), hs]
 rfl
theorem IsExs.shift {W : World} {g off : Nat} : ∀ {l : List Sx.Ex} {i : Nat}, IsExs W (some ⟨g, off, none⟩) (i + 1) l → IsExs W (some ⟨g, off + 7, none⟩) i l
 | [], i, _ => by rw [IsExs]; trivial
 | t :: l, i, h => by
  rw [IsExs] at h ⊢
  obtain ⟨⟨g', off', v0, v1, v2, v3, v4, v5, v6, hA, k0, k1, k2, k3, k4, k5, k6, ht⟩, hl⟩ := h
  injection hA with hA
  injection hA with e1 e2
  subst e1 e2
  rw [show off + (i + 1) * 7 = off + 7 + i * 7 by omega] at k0 k1 k2 k3 k4 k5 k6
  exact ⟨⟨g, off + 7, v0, v1, v2, v3, v4, v5, v6, rfl, k0, k1, k2, k3, k4, k5, k6, ht⟩, IsExs.shift hl⟩
theorem ExRow.tail {W : World} {g off k cp : Nat} {l : List Sx.Ex} (h : ExRow W (.slice (some ⟨g, off, none⟩) k cp) l) (hl : 0 < l.length) : ExRow W (sliced (some ⟨g, off, none⟩) 1 k cp 7) l.tail := by
 obtain ⟨A, c, hv, hc, hr⟩ := h
 injection hv with e1 e2 e3
 subst e1 e2 e3
 cases l with
 | nil => simp at hl
 | cons x l =>
  rw [IsExs] at hr
  refine ⟨_, cp - 1, by unfold sliced; rw [List.tail_cons, List.length_cons]; rfl, by simp at hc ⊢; omega, ?_⟩
  rw [List.tail_cons]
  by_cases h1 : cp = 1
  ·have : l = [] := by
    cases l with
    | nil => rfl
    | cons y l => simp at hc; omega
   subst this
   rw [IsExs]; trivial
  ·rw [if_neg h1]
   exact IsExs.shift hr.2
theorem zmgZ (s : Lx.Bytes) (h : s.length ≤ 100000000) : Lx.quote s ≠ [] ∧ (Lx.quote s).length ≤ 1000000000 := ⟨by unfold Lx.quote; simp, by have := Lx.quote_len s; omega⟩
theorem zmhZ (w : World) (k : Nat) (os : Array Obj) : w.grownBy (Sort.grow (w.drewN k) os) none := zoZ (Lib.below_grow _ _ (Nat.le_refl _) _ _)
set_option maxRecDepth 100000 in
set_option maxHeartbeats 8000000 in
theorem zmiZ {W0 : World} {b : Nat} {x : Sx.Ex} (ih : ∀ p ∈ x.parts, ExprOk W0 b p) (hG : GS W0) (hN : NG ≤ W0.heap.size) (hkd : x.kind = 5) : ExprOk W0 b x := by
 intro v l w hr ht hz h hc
 obtain ⟨hsh, hrp⟩ := hr.shape
 have hsz := Sx.sizeX_parts x
 have hsl := Sx.textX_len x
 rw [Sx.expr_eq, hkd] at hc ⊢
 rw [hkd] at hsh
 simp only [Int.reduceEq, if_true, if_false, or_false, false_or, or_true, true_or, reduceIte, Nat.reduceEqDiff] at hc ⊢
 simp [Sx.shapeX] at hsh
 obtain ⟨At, ct, An, cn, Ap, cp, rfl, htt, hnn, hp, hn0, hn1⟩ := ht.agg
 rw [hkd]
 have hb : l.length + 1 ≤ 1000000000 := by simp at hc; omega
 obtain ⟨L, hL⟩ : ∃ L, w.heap.size = L := ⟨_, rfl⟩
 obtain ⟨w2, hw2⟩ : ∃ w2, w.alloc (.cells #[.int .i64 x.pos, .int .i64 5, .int .i64 x.n, .string ⟨x.s.toArray⟩, .slice At x.t.length ct, .slice An x.names.length cn, .slice Ap x.parts.length cp] 39) = w2 := ⟨_, rfl⟩
 have hlv := Live.first h #[.int .i64 x.pos, .int .i64 5, .int .i64 x.n, .string ⟨x.s.toArray⟩, .slice At x.t.length ct, .slice An x.names.length cn, .slice Ap x.parts.length cp] 39 hw2
 rw [hL] at hlv
 have H2 := Lib.hid hlv
 clear hlv h
 clear hr ht hz hc hsh hrp hsz hsl htt hnn hp hn0 hn1 hkd ih hG hN
 go_enter Tryz.func64, Tryz.ntmps64
 obtain ⟨x0, x1, x2, x3, x4, x5, x6⟩ := zbZ H2.out.b1
 obtain ⟨hl1, hl2, hbl⟩ := H2.out.lt
 go_wp2_with (go_at_call 100; refine (H2.out.lput1 [115, 101, 108, 102] ⟨by simp, by simp⟩ hb).mono ?_; rintro e w3 ⟨rfl, hW3, hk3⟩)
 have H3 := Lib.hid (H2.out.go oEx oEx hW3 hk3)
 clear hW3 hk3
 clear x0 x1 x2 x3 x4 x5 x6 hl1 hl2 hbl
 go_end0
 refine ⟨rfl, ?_, H3.out.kp⟩
 have h9 := H3.out.wr
 exact h9
set_option maxRecDepth 100000 in
set_option maxHeartbeats 8000000 in
theorem zmjZ {W0 : World} {b : Nat} {x : Sx.Ex} (ih : ∀ p ∈ x.parts, ExprOk W0 b p) (hG : GS W0) (hN : NG ≤ W0.heap.size) (hkd : x.kind = 4) : ExprOk W0 b x := by
 intro v l w hr ht hz h hc
 obtain ⟨hsh, hrp⟩ := hr.shape
 have hsz := Sx.sizeX_parts x
 have hsl := Sx.textX_len x
 rw [Sx.expr_eq, hkd] at hc ⊢
 rw [hkd] at hsh
 simp only [Int.reduceEq, if_true, if_false, or_false, false_or, or_true, true_or, reduceIte, Nat.reduceEqDiff] at hc ⊢
 simp [Sx.shapeX] at hsh
 obtain ⟨At, ct, An, cn, Ap, cp, rfl, htt, hnn, hp, hn0, hn1⟩ := ht.agg
 rw [hkd]
 have hb : l.length + 1 ≤ 1000000000 := by simp at hc; omega
 have hss : x.s ≠ [] ∧ x.s.length ≤ 1000000000 := ⟨NM.ok.small _ hsh.1, by omega⟩
 obtain ⟨L, hL⟩ : ∃ L, w.heap.size = L := ⟨_, rfl⟩
 obtain ⟨w2, hw2⟩ : ∃ w2, w.alloc (.cells #[.int .i64 x.pos, .int .i64 4, .int .i64 x.n, .string ⟨x.s.toArray⟩, .slice At x.t.length ct, .slice An x.names.length cn, .slice Ap x.parts.length cp] 39) = w2 := ⟨_, rfl⟩
 have hlv := Live.first h #[.int .i64 x.pos, .int .i64 4, .int .i64 x.n, .string ⟨x.s.toArray⟩, .slice At x.t.length ct, .slice An x.names.length cn, .slice Ap x.parts.length cp] 39 hw2
 rw [hL] at hlv
 have H2 := Lib.hid hlv
 clear hlv h
 have HSS := Lib.hid hss
 clear hr ht hz hc hsh hrp hsz hsl htt hnn hp hn0 hn1 hkd ih hG hN hss
 go_enter Tryz.func64, Tryz.ntmps64
 obtain ⟨x0, x1, x2, x3, x4, x5, x6⟩ := zbZ H2.out.b1
 obtain ⟨hl1, hl2, hbl⟩ := H2.out.lt
 go_upto_region 10 with fail
 have HD2 := Lib.hid H2.out.drew
 go_region_with (go_at_call 100; refine (HD2.out.lput1 x.s HSS.out hb).mono ?_; rintro e w3 ⟨rfl, hW3, hk3⟩)
 have H3 := Lib.hid (HD2.out.go oEx oEx hW3 hk3)
 clear hW3 hk3
 clear x0 x1 x2 x3 x4 x5 x6 hl1 hl2 hbl
 go_end0
 refine ⟨rfl, ?_, H3.out.kp⟩
 have h9 := H3.out.wr
 exact h9
set_option maxRecDepth 100000 in
set_option maxHeartbeats 8000000 in
theorem zmkZ {W0 : World} {b : Nat} {x : Sx.Ex} (ih : ∀ p ∈ x.parts, ExprOk W0 b p) (hG : GS W0) (hN : NG ≤ W0.heap.size) (hkd : x.kind = 1) : ExprOk W0 b x := by
 intro v l w hr ht hz h hc
 obtain ⟨hsh, hrp⟩ := hr.shape
 have hsz := Sx.sizeX_parts x
 have hsl := Sx.textX_len x
 rw [Sx.expr_eq, hkd] at hc ⊢
 rw [hkd] at hsh
 simp only [Int.reduceEq, if_true, if_false, or_false, false_or, or_true, true_or, reduceIte, Nat.reduceEqDiff] at hc ⊢
 simp [Sx.shapeX] at hsh
 have hn0' : 0 ≤ x.n := by have := hsh.2.1; omega
 obtain ⟨At, ct, An, cn, Ap, cp, rfl, htt, hnn, hp, hn0, hn1⟩ := ht.agg
 rw [hkd]
 have hb : l.length + 1 ≤ 1000000000 := by simp at hc; omega
 obtain ⟨dg, hdg⟩ : ∃ dg, SY.digits x.n = dg := ⟨_, rfl⟩
 have hdd : dg = Lib.decDigits x.n.toNat := by rw [← hdg]; rfl
 have hss : dg ≠ [] ∧ dg.length ≤ 1000000000 := by
  rw [hdd]
  have h1 := Lib.decDigits_length x.n.toNat
  have h2 := Lib.nDigits_pos x.n.toNat
  have h3 := nD_le 19 x.n.toNat (by omega)
  refine ⟨fun e => ?_, by omega⟩
  rw [e] at h1; simp at h1; omega
 have hit : ∀ w', Below W0.heap.size W0 w' → Calls Tryz.prog 113 #[.int .i64 x.n] w' fun e w'' => e = .returned (.string ⟨dg.toArray⟩) ∧ w'.grownBy w'' none := fun w' hb' =>
  (Tryz.strconv_Itoa x.n hn0 hn1 w' (hG.below hb').pow).mono fun e w'' ⟨he, k, os, hw⟩ => ⟨by rw [he, hdd]; unfold Lib.itoa; rw [if_neg (by omega)], by rw [hw]; exact zmhZ _ _ _⟩
 rw [hdg]
 obtain ⟨L, hL⟩ : ∃ L, w.heap.size = L := ⟨_, rfl⟩
 obtain ⟨w2, hw2⟩ : ∃ w2, w.alloc (.cells #[.int .i64 x.pos, .int .i64 1, .int .i64 x.n, .string ⟨x.s.toArray⟩, .slice At x.t.length ct, .slice An x.names.length cn, .slice Ap x.parts.length cp] 39) = w2 := ⟨_, rfl⟩
 have hlv := Live.first h #[.int .i64 x.pos, .int .i64 1, .int .i64 x.n, .string ⟨x.s.toArray⟩, .slice At x.t.length ct, .slice An x.names.length cn, .slice Ap x.parts.length cp] 39 hw2
 rw [hL] at hlv
 have H2 := Lib.hid hlv
 clear hlv h
 have HSS := Lib.hid hss
 have HIT := Lib.hid hit
 clear hr ht hz hc hsh hrp hsz hsl htt hnn hp hn0 hn1 hkd ih hG hN hss hit hdd hdg
 go_enter Tryz.func64, Tryz.ntmps64
 obtain ⟨x0, x1, x2, x3, x4, x5, x6⟩ := zbZ H2.out.b1
 obtain ⟨hl1, hl2, hbl⟩ := H2.out.lt
 go_upto_region 4 with fail
 have HD2 := Lib.hid H2.out.drew
 go_region_with (first | (go_at_call 113; refine (HIT.out _ HD2.out.wr.below).mono ?_; rintro e w9 ⟨rfl, hg9⟩; have HF := Lib.hid (HD2.out.grow hg9); have hl9 := HF.out.lt; clear hg9) | (go_at_call 100; refine (HF.out.lput1 dg HSS.out hb).mono ?_; rintro e w3 ⟨rfl, hW3, hk3⟩))
 have H3 := Lib.hid (HF.out.go oEx oEx hW3 hk3)
 clear hW3 hk3
 clear x0 x1 x2 x3 x4 x5 x6 hl1 hl2 hbl
 go_end0
 refine ⟨rfl, ?_, H3.out.kp⟩
 have h9 := H3.out.wr
 exact h9
set_option maxRecDepth 100000 in
set_option maxHeartbeats 8000000 in
theorem zmlZ {W0 : World} {b : Nat} {x : Sx.Ex} (ih : ∀ p ∈ x.parts, ExprOk W0 b p) (hG : GS W0) (hN : NG ≤ W0.heap.size) (hkd : x.kind = 2) : ExprOk W0 b x := by
 intro v l w hr ht hz h hc
 obtain ⟨hsh, hrp⟩ := hr.shape
 have hsz := Sx.sizeX_parts x
 have hsl := Sx.textX_len x
 rw [Sx.expr_eq, hkd] at hc ⊢
 rw [hkd] at hsh
 simp only [Int.reduceEq, if_true, if_false, or_false, false_or, or_true, true_or, reduceIte, Nat.reduceEqDiff] at hc ⊢
 simp [Sx.shapeX] at hsh
 obtain ⟨At, ct, An, cn, Ap, cp, rfl, htt, hnn, hp, hn0, hn1⟩ := ht.agg
 rw [hkd]
 have hb : l.length + 1 ≤ 1000000000 := by simp at hc; omega
 obtain ⟨dg, hdg⟩ : ∃ dg, SY.quote x.s = dg := ⟨_, rfl⟩
 have hss : dg ≠ [] ∧ dg.length ≤ 1000000000 := by
  rw [← hdg]
  exact zmgZ x.s (by omega)
 have hit : ∀ w', Calls Tryz.prog 114 #[.string ⟨x.s.toArray⟩] w' fun e w'' => e = .returned (.string ⟨dg.toArray⟩) ∧ w'.grownBy w'' none := fun w' =>
  (zgtZ ⟨x.s.toArray⟩ w' (by simp [ByteArray.size]; omega)).mono fun e w'' ⟨he, hb⟩ => ⟨by rw [he, ← hdg]; rfl, zoZ hb⟩
 rw [hdg]
 obtain ⟨L, hL⟩ : ∃ L, w.heap.size = L := ⟨_, rfl⟩
 obtain ⟨w2, hw2⟩ : ∃ w2, w.alloc (.cells #[.int .i64 x.pos, .int .i64 2, .int .i64 x.n, .string ⟨x.s.toArray⟩, .slice At x.t.length ct, .slice An x.names.length cn, .slice Ap x.parts.length cp] 39) = w2 := ⟨_, rfl⟩
 have hlv := Live.first h #[.int .i64 x.pos, .int .i64 2, .int .i64 x.n, .string ⟨x.s.toArray⟩, .slice At x.t.length ct, .slice An x.names.length cn, .slice Ap x.parts.length cp] 39 hw2
 rw [hL] at hlv
 have H2 := Lib.hid hlv
 clear hlv h
 have HSS := Lib.hid hss
 have HIT := Lib.hid hit
 clear hr ht hz hc hsh hrp hsz hsl htt hnn hp hn0 hn1 hkd ih hG hN hss hit hdg
 go_enter Tryz.func64, Tryz.ntmps64
 obtain ⟨x0, x1, x2, x3, x4, x5, x6⟩ := zbZ H2.out.b1
 obtain ⟨hl1, hl2, hbl⟩ := H2.out.lt
 go_upto_region 6 with fail
 have HD2 := Lib.hid H2.out.drew
 go_region_with (first | (go_at_call 114; refine (HIT.out _).mono ?_; rintro e w9 ⟨rfl, hg9⟩; have HF := Lib.hid (HD2.out.grow hg9); have hl9 := HF.out.lt; clear hg9) | (go_at_call 100; refine (HF.out.lput1 dg HSS.out hb).mono ?_; rintro e w3 ⟨rfl, hW3, hk3⟩))
 have H3 := Lib.hid (HF.out.go oEx oEx hW3 hk3)
 clear hW3 hk3
 clear x0 x1 x2 x3 x4 x5 x6 hl1 hl2 hbl
 go_end0
 refine ⟨rfl, ?_, H3.out.kp⟩
 have h9 := H3.out.wr
 exact h9
end Go.Proofs.YtdncljdfmdgdaaaGreatDoor
