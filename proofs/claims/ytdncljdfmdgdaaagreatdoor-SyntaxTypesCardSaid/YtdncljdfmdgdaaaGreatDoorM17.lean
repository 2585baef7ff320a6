/-
  The walk of list.
-/
/-
 The walk of list.
 The walk of record.
-/
import Derived.Test.YtdncljdfmdgdaaaGreatDoorM16
namespace Go.Proofs.YtdncljdfmdgdaaaGreatDoor
open Go.RowKit Go.Shelf Go.WideMaps
set_option linter.unusedSimpArgs false
set_option linter.unusedVariables false
theorem Sx.list_append (S : Sx.Says) : ∀ (l m : List Sx.Ex) (i : Nat), Sx.list S i (l ++ m) = Sx.list S i l ++ Sx.list S (i + l.length) m
 | [], m, i => by simp [Sx.list]
 | x :: l, m, i => by
  rw [List.cons_append, Sx.list, Sx.list, Sx.list_append S l m (i + 1), List.length_cons, show i + 1 + l.length = i + (l.length + 1) by omega]
  simp [List.append_assoc]
theorem Sx.list_take {l : List Sx.Ex} {m : Nat} (h : m < l.length) : Sx.list SY 0 (l.take (m + 1)) = Sx.list SY 0 (l.take m) ++ (if 0 < m then [[44]] else []) ++ Sx.expr SY l[m] := by
 rw [List.take_succ_eq_append_getElem h, Sx.list_append, Nat.zero_add, List.length_take, Nat.min_eq_left (by omega)]
 simp [Sx.list, List.append_assoc]
theorem Sx.list_le (l : List Sx.Ex) (m : Nat) : (Sx.list SY 0 (l.take m)).length ≤ (Sx.list SY 0 l).length := by
 conv => rhs; rw [← List.take_append_drop m l, Sx.list_append, List.length_append]
 omega
set_option maxRecDepth 100000 in
set_option maxHeartbeats 8000000 in
theorem synList {W0 : World} {b : Nat} {xs : List Sx.Ex} (ih : ∀ x ∈ xs, ExprOk W0 b x) : ListOk W0 b xs := by
 intro v l w hr ht hz h hc
 have hlen : (Sx.listed xs).length = (Sx.list SY 0 xs).length + 2 := by simp [Sx.listed]
 have hxl := Sx.length_sizeXs xs
 obtain ⟨A, c, rfl, hcap, hrow⟩ := ht
 have ht : ExRow W0 (.slice A xs.length c) xs := ⟨A, c, rfl, hcap, hrow⟩
 obtain ⟨k, hk⟩ : ∃ k, xs.length = k := ⟨_, rfl⟩
 rw [hk] at ht ⊢
 have hki : (k : Int) ≤ 1000000 := by omega
 have hk0 : (0 : Int) ≤ (k : Int) := by omega
 have hb1 : l.length + 1 ≤ 1000000000 := by omega
 obtain ⟨lf, hlf⟩ : ∃ lf, (Sx.list SY 0 xs).length = lf := ⟨_, rfl⟩
 have hbf : l.length + lf + 2 ≤ 900000000 := by omega
 have hbl0 := h.lt
 have HX := Lib.hid h
 have HK := Lib.hid hk
 have HP := Lib.hid ht
 have HR := Lib.hid hr
 have HZ := Lib.hid hz
 have HIH := Lib.hid ih
 have HLF := Lib.hid hlf
 clear h hr ht hz hc hlen hk ih hxl hcap hrow hlf
 go_enter Tryz.func117, Tryz.ntmps117
 go_upto_region 1 with (go_at_call 100; refine (put1 (s := [40]) HX.out ⟨by simp, by simp⟩ hb1).mono ?_; rintro e w3 ⟨rfl, hW3, hk3⟩)
 have HK3 := Lib.hid hk3
 have H3 := Lib.hid hW3.tight
 have hbl3 := hW3.lt
 clear hW3 hk3
 go_wp2_with fail
 go_loopg [13] k (fun i v wr => ∃ (m : Nat), i = k - m ∧ v = .int .i64 (m : Int) ∧ m ≤ k ∧ Wrote W0 b (l ++ [[40]] ++ Sx.list SY 0 (xs.take m)).length (l ++ [[40]] ++ Sx.list SY 0 (xs.take m)) wr ∧ KeepW w3 wr)
 case atStart => exact ⟨0, rfl, rfl, Nat.zero_le _, by simpa [Sx.list] using H3.out, KeepW.refl _⟩
 case round =>
  obtain ⟨m, hi, rfl, hm, hW, hkw⟩ := hrel
  have hle := Sx.list_le xs m
  have HI := Lib.hid hi
  have m0 : (0 : Int) ≤ (m : Int) := by omega
  have hblr := hW.lt
  have HKR := Lib.hid (HK3.out.trans hkw)
  have HK3R := Lib.hid hkw
  rw [HLF.out] at hle
  by_cases hlt : m < k
  ·have hmi : (m : Int) < (k : Int) := by omega
   have hmp : m < xs.length := by have := HK.out; omega
   have hle2 := Sx.list_le xs (m + 1)
   have HWR := Lib.hid hW
   clear hi hW hkw
   obtain ⟨g, off, At, ct, An, cn, Aq, cq, rfl, hty, hc7⟩ := HP.out.spot m hmp
   obtain ⟨x, hxe⟩ : ∃ x, xs[m]'hmp = x := ⟨_, rfl⟩
   have hmem : x ∈ xs := by rw [← hxe]; exact List.getElem_mem hmp
   have hpt := Sx.list_take hmp
   rw [hxe] at hc7 hty hpt
   obtain ⟨hg, c0, c1, c2, c3, c4, c5, c6⟩ := hc7 wr HWR.out.below
   have hxs := Sx.sizeX_mem hmem
   have hxz : Sx.sizeX x ≤ 1000000 := by have := HZ.out; omega
   obtain ⟨q, hq⟩ : ∃ q, Sx.expr SY x = q := ⟨_, rfl⟩
   rw [hq] at hpt
   rw [hpt, HLF.out] at hle2
   obtain ⟨lm, hlm⟩ : ∃ lm, Sx.list SY 0 (xs.take m) = lm := ⟨_, rfl⟩
   rw [hlm] at hpt hle2
   have HW1 := Lib.hid (show Wrote W0 b (l ++ [[40]] ++ lm).length (l ++ [[40]] ++ lm) wr by rw [← hlm]; exact HWR.out)
   obtain ⟨cm, hcm⟩ : ∃ cm : List Lx.Bytes, (if 0 < m then [[44]] else []) = cm := ⟨_, rfl⟩
   have hcml : cm.length ≤ 1 := by rw [← hcm]; split <;> simp
   rw [hcm] at hpt hle2
   simp only [List.length_append] at hle2
   have hb4 : (l ++ [[40]] ++ lm).length + 1 ≤ 1000000000 := by simp; omega
   have hb5 : (l ++ [[40]] ++ lm ++ cm).length + q.length ≤ 900000000 := by simp; omega
   have hE := Lib.hid (show ∀ u w, IsEx W0 u x → Wrote W0 b (l ++ [[40]] ++ lm ++ cm).length (l ++ [[40]] ++ lm ++ cm) w → Calls Tryz.prog 64 #[.pointer (some ⟨b, 0, none⟩), u] w fun e w' => e = .returned (.tuple #[]) ∧ Wrote W0 b (l ++ [[40]] ++ lm ++ cm ++ q).length (l ++ [[40]] ++ lm ++ cm ++ q) w' ∧ KeepW w w' from fun u w hu hw => by
    have := HIH.out x hmem u (l ++ [[40]] ++ lm ++ cm) w (HR.out x hmem) hu hxz hw (by rw [hq]; exact hb5)
    rwa [hq] at this)
   have hCm := Lib.hid (show ∀ w, Wrote W0 b (l ++ [[40]] ++ lm).length (l ++ [[40]] ++ lm) w → Calls Tryz.prog 131 #[.pointer (some ⟨b, 0, none⟩), .int .i64 (m : Int)] w fun e w' => e = .returned (.tuple #[]) ∧ Wrote W0 b ((l ++ [[40]] ++ lm).length + 1) (l ++ [[40]] ++ lm ++ cm) w' ∧ KeepW w w' from fun w hw => by
    have := zctZ m hw (by omega) hb4
    rwa [hcm] at this)
   obtain ⟨L, hL⟩ : ∃ L, wr.heap.size = L := ⟨_, rfl⟩
   obtain ⟨w4, hw4⟩ : ∃ w4, wr.alloc (.cells #[.int .i64 x.pos, .int .i64 x.kind, .int .i64 x.n, .string ⟨x.s.toArray⟩, .slice At x.t.length ct, .slice An x.names.length cn, .slice Aq x.parts.length cq] 39) = w4 := ⟨_, rfl⟩
   have hlv := Live.first HW1.out #[.int .i64 x.pos, .int .i64 x.kind, .int .i64 x.n, .string ⟨x.s.toArray⟩, .slice At x.t.length ct, .slice An x.names.length cn, .slice Aq x.parts.length cq] 39 hw4
   rw [hL] at hlv
   have H4 := Lib.hid hlv
   have HTY := Lib.hid hty
   have HPT := Lib.hid hpt
   clear hlv hty hpt hcm hlm hq hmem hxe hc7 hxs hxz
   obtain ⟨x0, x1, x2, x3, x4, x5, x6⟩ := zbZ H4.out.b1
   obtain ⟨hl1, hl2, hbl⟩ := H4.out.lt
   go_upto_region 5 with (go_at_call 131; refine (hCm.out w4 H4.out.wr).mono ?_; rintro e w5 ⟨rfl, hW5, hk5⟩)
   have H5 := Lib.hid (H4.out.go oEx oEx hW5 hk5)
   clear hW5 hk5
   clear x0 x1 x2 x3 x4 x5 x6 hl1 hl2 hbl
   obtain ⟨x0, x1, x2, x3, x4, x5, x6⟩ := zbZ H5.out.b1
   obtain ⟨hl1, hl2, hbl⟩ := H5.out.lt
   go_wp2_with (go_at_call 64; refine (hE.out _ w5 HTY.out H5.out.wr).mono ?_; rintro e w6 ⟨rfl, hW6, hk6⟩)
   have H6 := Lib.hid (H5.out.go oEx oEx hW6 hk6)
   clear hW6 hk6
   clear x0 x1 x2 x3 x4 x5 x6 hl1 hl2 hbl
   go_roundg (k - (m + 1))
   case measure => have := HI.out; omega
   case rel =>
    refine ⟨m + 1, rfl, by simp, hlt, ?_, HK3R.out.trans H6.out.kp⟩
    rw [HPT.out]
    simpa [List.append_assoc] using H6.out.wr
  ·have hmi : ¬ (m : Int) < (k : Int) := by omega
   have hb6 : (l ++ [[40]] ++ Sx.list SY 0 (xs.take m)).length + 1 ≤ 1000000000 := by simp; omega
   have HW := Lib.hid hW
   have HTK := Lib.hid (List.take_of_length_le (show xs.length ≤ m by have := HK.out; omega))
   clear hi hW hkw
   go_wp2_with (go_at_call 100; refine (put1 (s := [41]) HW.out ⟨by simp, by simp⟩ hb6).mono ?_; rintro e w7 ⟨rfl, hW7, hk7⟩)
   go_end0
   refine ⟨rfl, ?_, HKR.out.trans hk7⟩
   unfold Sx.listed
   have h8 := hW7.tight
   rw [HTK.out] at h8
   simpa [List.append_assoc] using h8
end Go.Proofs.YtdncljdfmdgdaaaGreatDoor
namespace Go.Proofs.YtdncljdfmdgdaaaGreatDoor
open Go.RowKit Go.Shelf Go.WideMaps
set_option linter.unusedSimpArgs false
set_option linter.unusedVariables false
theorem Sx.shape78 {k n : Int} {s : Lx.Bytes} {t : List Sx.Ty} {ns : List Lx.Bytes} {m : Nat} (hk : k = 7 ∨ k = 8) (h : Sx.shapeX NM k n s t ns m = true) : NM.great s = true ∧ m = ns.length ∧ Sx.apart NM ns = true := by
 rcases hk with rfl | rfl <;> simp [Sx.shapeX] at h <;> exact ⟨h.1, h.2.2.2.1, h.2.2.2.2⟩
theorem Sx.record_append (S : Sx.Says) : ∀ (ns : List Lx.Bytes) (ps : List Sx.Ex) (i : Nat) (n : Lx.Bytes) (p : Sx.Ex), ns.length = ps.length →
  Sx.record S i (ns ++ [n]) (ps ++ [p]) = Sx.record S i ns ps ++ ((if 0 < i + ps.length then [[44]] else []) ++ [n, [58]] ++ Sx.expr S p)
 | [], [], i, n, p, _ => by simp [Sx.record]
 | a :: ns, t :: ps, i, n, p, h1 => by
  rw [List.cons_append, List.cons_append, Sx.record, Sx.record, Sx.record_append S ns ps (i + 1) n p (by simpa using h1), List.length_cons, show i + 1 + ps.length = i + (ps.length + 1) by omega]
  simp [List.append_assoc]
 | [], _ :: _, _, _, _, h1 => by simp at h1
 | _ :: _, [], _, _, _, h1 => by simp at h1
theorem Sx.record_take {ns : List Lx.Bytes} {ps : List Sx.Ex} {m : Nat} (h1 : ns.length = ps.length) (hm : m < ps.length) :
  Sx.record SY 0 (ns.take (m + 1)) (ps.take (m + 1)) = Sx.record SY 0 (ns.take m) (ps.take m) ++ (if 0 < m then [[44]] else []) ++ [ns[m]'(by omega), [58]] ++ Sx.expr SY ps[m] := by
 rw [List.take_succ_eq_append_getElem hm, List.take_succ_eq_append_getElem (show m < ns.length by omega), Sx.record_append SY _ _ _ _ _ (by simp; omega), Nat.zero_add, List.length_take, Nat.min_eq_left (by omega)]
 simp [List.append_assoc]
theorem Sx.record_pre (S : Sx.Says) : ∀ (ns : List Lx.Bytes) (ps : List Sx.Ex) (i m : Nat), (Sx.record S i (ns.take m) (ps.take m)).length ≤ (Sx.record S i ns ps).length
 | [], ps, i, m => by simp [Sx.record]
 | n :: ns, [], i, m => by cases m <;> simp [Sx.record]
 | n :: ns, p :: ps, i, 0 => by simp [Sx.record]
 | n :: ns, p :: ps, i, m + 1 => by
  rw [List.take_succ_cons, List.take_succ_cons, Sx.record, Sx.record]
  have := Sx.record_pre S ns ps (i + 1) m
  simp only [List.length_append]
  omega
theorem Sx.nameX_len {t : Sx.Ex} {s : Lx.Bytes} (h : s ∈ t.names) : s.length ≤ Sx.sizeX t := by
 have h1 := Sx.sizeX_parts t
 have h2 := Sx.le_sum h
 omega
theorem Sx.textX_len (t : Sx.Ex) : t.s.length ≤ Sx.sizeX t := by
 have h1 := Sx.sizeX_parts t
 omega
def Sx.rec (x : Sx.Ex) : List Lx.Bytes := (if x.kind = 8 then [[110, 101, 119]] else []) ++ [x.s, [123]] ++ Sx.record SY 0 x.names x.parts ++ [[125]]
def RecOk (W0 : World) (b : Nat) (x : Sx.Ex) : Prop := ∀ (v : Value) (l : List Lx.Bytes) (w : World), Sx.okX x → IsEx W0 v x → Sx.sizeX x ≤ 1000000 → Wrote W0 b l.length l w → l.length + (Sx.rec x).length ≤ 900000000 →
 Calls Tryz.prog 115 #[.pointer (some ⟨b, 0, none⟩), v] w fun e w' => e = .returned (.tuple #[]) ∧ Wrote W0 b (l ++ Sx.rec x).length (l ++ Sx.rec x) w' ∧ KeepW w w'
set_option maxRecDepth 100000 in
set_option maxHeartbeats 8000000 in
theorem zitZ {W0 : World} {b : Nat} {x : Sx.Ex} (ih : ∀ p ∈ x.parts, ExprOk W0 b p) (hkd : x.kind = 7) : RecOk W0 b x := by
 intro v l w hr ht hz h hc
 obtain ⟨hsh, hrp⟩ := hr.shape
 obtain ⟨hgr, hns, hap⟩ := Sx.shape78 (by omega) hsh
 have hsz := Sx.sizeX_parts x
 have hxl := Sx.length_sizeXs x.parts
 have hsl := Sx.textX_len x
 have hsne := NM.ok.great _ hgr
 have hre : Sx.rec x = [x.s, [123]] ++ Sx.record SY 0 x.names x.parts ++ [[125]] := by unfold Sx.rec; rw [hkd]; simp
 have hlen : (Sx.rec x).length = (Sx.record SY 0 x.names x.parts).length + 3 := by rw [hre]; simp
 obtain ⟨lf, hlf⟩ : ∃ lf, (Sx.record SY 0 x.names x.parts).length = lf := ⟨_, rfl⟩
 have hbf : l.length + lf + 3 ≤ 900000000 := by omega
 obtain ⟨At, ct, An, cn, Ap, cp, rfl, -, hnm, hp, -⟩ := ht.agg
 obtain ⟨k, hk⟩ : ∃ k, x.parts.length = k := ⟨_, rfl⟩
 rw [hk] at hp ⊢
 rw [hkd]
 have hki : (k : Int) ≤ 1000000 := by omega
 have hk0 : (0 : Int) ≤ (k : Int) := by omega
 have hss : x.s ≠ [] ∧ x.s.length ≤ 1000000000 := ⟨hsne, by omega⟩
 have hb1 : (l).length + 2 ≤ 1000000000 := by simp; omega
 obtain ⟨L, hL⟩ : ∃ L, w.heap.size = L := ⟨_, rfl⟩
 obtain ⟨w2, hw2⟩ : ∃ w2, w.alloc (.cells #[.int .i64 x.pos, .int .i64 7, .int .i64 x.n, .string ⟨x.s.toArray⟩, .slice At x.t.length ct, .slice An x.names.length cn, .slice Ap k cp] 39) = w2 := ⟨_, rfl⟩
 have hlv := Live.first h #[.int .i64 x.pos, .int .i64 7, .int .i64 x.n, .string ⟨x.s.toArray⟩, .slice At x.t.length ct, .slice An x.names.length cn, .slice Ap k cp] 39 hw2
 rw [hL] at hlv
 have H2 := Lib.hid hlv
 clear hlv h
 have HK := Lib.hid hk
 have HP := Lib.hid hp
 have HNM := Lib.hid hnm
 have HNS := Lib.hid (show x.names.length = x.parts.length from (hns.symm))
 have HAP := Lib.hid (show ∀ s ∈ x.names, s ≠ [] ∧ s.length ≤ 1000000000 from fun s hs => ⟨NM.ok.small _ (Sx.apart_small hap s hs), by have := Sx.nameX_len hs; omega⟩)
 have HRP := Lib.hid hrp
 have HZ := Lib.hid (show Sx.sizeXs x.parts ≤ 1000000 by omega)
 have HIH := Lib.hid ih
 have HLF := Lib.hid hlf
 have HRE := Lib.hid hre
 have HSS := Lib.hid hss
 clear hk hp hnm hns hap hrp hsh hgr hsz hxl hsl hsne hre hlen hlf ih hr ht hz hc hkd hss
 go_enter Tryz.func115, Tryz.ntmps115
 obtain ⟨x0, x1, x2, x3, x4, x5, x6⟩ := zbZ H2.out.b1
 obtain ⟨hl1, hl2, hbl⟩ := H2.out.lt
 go_upto_region 3 with fail
 have HD2 := Lib.hid H2.out.drew
 go_region_with (go_at_call 100; refine (HD2.out.lput2 x.s [123] HSS.out ⟨by simp, by simp⟩ hb1).mono ?_; rintro e w3 ⟨rfl, hW3, hk3⟩)
 have H3 := Lib.hid (HD2.out.go oEx oEx hW3 hk3)
 clear hW3 hk3
 clear x0 x1 x2 x3 x4 x5 x6 hl1 hl2 hbl
 obtain ⟨x0, x1, x2, x3, x4, x5, x6⟩ := zbZ H3.out.b1
 obtain ⟨hl1, hl2, hbl⟩ := H3.out.lt
 go_wp2_with fail
 clear x0 x1 x2 x3 x4 x5 x6 hl1 hl2 hbl
 have HS := Lib.hid (show Wrote W0 b (l ++ [x.s, [123]] ++ Sx.record SY 0 (x.names.take 0) (x.parts.take 0)).length (l ++ [x.s, [123]] ++ Sx.record SY 0 (x.names.take 0) (x.parts.take 0)) w3 by simpa [Sx.record] using H3.out.wr)
 go_loopg [24] k (fun i v wr => ∃ (m : Nat), i = k - m ∧ v = .int .i64 (m : Int) ∧ m ≤ k ∧ Wrote W0 b (l ++ [x.s, [123]] ++ Sx.record SY 0 (x.names.take m) (x.parts.take m)).length (l ++ [x.s, [123]] ++ Sx.record SY 0 (x.names.take m) (x.parts.take m)) wr ∧ KeepW w3 wr)
 case atStart => exact ⟨0, rfl, rfl, Nat.zero_le _, HS.out, KeepW.refl _⟩
 case round =>
  obtain ⟨m, hi, rfl, hm, hW, hkw⟩ := hrel
  have hle := Sx.record_pre SY x.names x.parts 0 m
  have HI := Lib.hid hi
  have m0 : (0 : Int) ≤ (m : Int) := by omega
  have HBX := Lib.hid (hkw _ _ _ _ H3.out.b1 oEx.1 oEx.2)
  have HKR := Lib.hid (H3.out.kp.trans hkw)
  have HK3R := Lib.hid hkw
  rw [HLF.out] at hle
  by_cases hlt : m < k
  ·have hmi : (m : Int) < (k : Int) := by omega
   have hmp : m < x.parts.length := by have := HK.out; omega
   have hmn : m < x.names.length := by have := HNS.out; omega
   have hmni : (m : Int) < (x.names.length : Int) := by omega
   have hle2 := Sx.record_pre SY x.names x.parts 0 (m + 1)
   have HWR := Lib.hid hW
   clear hi hW hkw
   obtain ⟨g, off, At1, ct1, An1, cn1, Aq, cq, rfl, hty, hc7⟩ := HP.out.spot m hmp
   obtain ⟨p, hxe⟩ : ∃ p, x.parts[m]'hmp = p := ⟨_, rfl⟩
   have hmem : p ∈ x.parts := by rw [← hxe]; exact List.getElem_mem hmp
   have hpt := Sx.record_take HNS.out hmp
   rw [hxe] at hc7 hty hpt
   obtain ⟨hg, c0, c1, c2, c3, c4, c5, c6⟩ := hc7 wr HWR.out.below
   have hxs := Sx.sizeX_mem hmem
   have hxz : Sx.sizeX p ≤ 1000000 := by have := HZ.out; omega
   obtain ⟨q, hq⟩ : ∃ q, Sx.expr SY p = q := ⟨_, rfl⟩
   rw [hq] at hpt
   obtain ⟨g1, off1, rfl, hsp1⟩ := HNM.out.spot m hmn
   obtain ⟨s, hse⟩ : ∃ s, x.names[m]'hmn = s := ⟨_, rfl⟩
   have hsm : s ∈ x.names := by rw [← hse]; exact List.getElem_mem hmn
   have HSN := Lib.hid (HAP.out s hsm)
   rw [hse] at hsp1 hpt
   have HS1 := Lib.hid hsp1
   rw [hpt, HLF.out] at hle2
   obtain ⟨lm, hlm⟩ : ∃ lm, Sx.record SY 0 (x.names.take m) (x.parts.take m) = lm := ⟨_, rfl⟩
   rw [hlm] at hpt hle2
   have HW1 := Lib.hid (show Wrote W0 b (l ++ [x.s, [123]] ++ lm).length (l ++ [x.s, [123]] ++ lm) wr by rw [← hlm]; exact HWR.out)
   obtain ⟨cm, hcm⟩ : ∃ cm : List Lx.Bytes, (if 0 < m then [[44]] else []) = cm := ⟨_, rfl⟩
   have hcml : cm.length ≤ 1 := by rw [← hcm]; split <;> simp
   rw [hcm] at hpt hle2
   simp only [List.length_append, List.length_cons, List.length_nil] at hle2
   have hb4 : (l ++ [x.s, [123]] ++ lm).length + 1 ≤ 1000000000 := by simp; omega
   have hb5 : (l ++ [x.s, [123]] ++ lm ++ cm).length + 2 ≤ 1000000000 := by simp; omega
   have hb6 : (l ++ [x.s, [123]] ++ lm ++ cm ++ [s, [58]]).length + q.length ≤ 900000000 := by simp; omega
   have hE := Lib.hid (show ∀ u w, IsEx W0 u p → Wrote W0 b (l ++ [x.s, [123]] ++ lm ++ cm ++ [s, [58]]).length (l ++ [x.s, [123]] ++ lm ++ cm ++ [s, [58]]) w → Calls Tryz.prog 64 #[.pointer (some ⟨b, 0, none⟩), u] w fun e w' => e = .returned (.tuple #[]) ∧ Wrote W0 b (l ++ [x.s, [123]] ++ lm ++ cm ++ [s, [58]] ++ q).length (l ++ [x.s, [123]] ++ lm ++ cm ++ [s, [58]] ++ q) w' ∧ KeepW w w' from fun u w hu hw => by
    have := HIH.out p hmem u (l ++ [x.s, [123]] ++ lm ++ cm ++ [s, [58]]) w (HRP.out p hmem) hu hxz hw (by rw [hq]; exact hb6)
    rwa [hq] at this)
   have hCm := Lib.hid (show ∀ w, Wrote W0 b (l ++ [x.s, [123]] ++ lm).length (l ++ [x.s, [123]] ++ lm) w → Calls Tryz.prog 131 #[.pointer (some ⟨b, 0, none⟩), .int .i64 (m : Int)] w fun e w' => e = .returned (.tuple #[]) ∧ Wrote W0 b ((l ++ [x.s, [123]] ++ lm).length + 1) (l ++ [x.s, [123]] ++ lm ++ cm) w' ∧ KeepW w w' from fun w hw => by
    have := zctZ m hw (by omega) hb4
    rwa [hcm] at this)
   have hlv0 : Live W0 b (l ++ [x.s, [123]] ++ lm) w3 wr L _ _ L _ _ := ⟨HW1.out, HK3R.out, HBX.out, HBX.out⟩
   obtain ⟨x0, x1, x2, x3, x4, x5, x6⟩ := zbZ hlv0.b1
   obtain ⟨hl1, hl2, hbl⟩ := hlv0.lt
   obtain ⟨L4, hL4⟩ : ∃ L4, wr.heap.size = L4 := ⟨_, rfl⟩
   obtain ⟨w4, hw4⟩ : ∃ w4, wr.alloc (.cells #[.int .i64 p.pos, .int .i64 p.kind, .int .i64 p.n, .string ⟨p.s.toArray⟩, .slice At1 p.t.length ct1, .slice An1 p.names.length cn1, .slice Aq p.parts.length cq] 39) = w4 := ⟨_, rfl⟩
   have hlv := hlv0.box #[.int .i64 p.pos, .int .i64 p.kind, .int .i64 p.n, .string ⟨p.s.toArray⟩, .slice At1 p.t.length ct1, .slice An1 p.names.length cn1, .slice Aq p.parts.length cq] 39 hw4
   rw [hL4] at hlv
   have H4 := Lib.hid hlv
   have HTY := Lib.hid hty
   have HPT := Lib.hid hpt
   clear hlv0 hlv hty hpt hcm hlm hq hmem hxe hc7 hxs hxz hse hsm hsp1
   clear x0 x1 x2 x3 x4 x5 x6 hl1 hl2 hbl
   obtain ⟨x0, x1, x2, x3, x4, x5, x6⟩ := zbZ HBX.out
   have hlr := zaZ HBX.out
   obtain ⟨x0, x1, x2, x3, x4, x5, x6⟩ := zbZ H4.out.b1
   obtain ⟨y0, y1, y2, y3, y4, y5, y6⟩ := zbZ H4.out.b2
   obtain ⟨hl1, hl2, hbl⟩ := H4.out.lt
   go_upto_region 8 with (go_at_call 131; refine (hCm.out w4 H4.out.wr).mono ?_; rintro e w5 ⟨rfl, hW5, hk5⟩)
   have H5 := Lib.hid (H4.out.go oEx oEx hW5 hk5)
   clear hW5 hk5
   clear x0 x1 x2 x3 x4 x5 x6 y0 y1 y2 y3 y4 y5 y6 hl1 hl2 hbl
   obtain ⟨x0, x1, x2, x3, x4, x5, x6⟩ := zbZ H5.out.b1
   obtain ⟨y0, y1, y2, y3, y4, y5, y6⟩ := zbZ H5.out.b2
   obtain ⟨hl1, hl2, hbl⟩ := H5.out.lt
   obtain ⟨q0, q1⟩ := HS1.out w5 H5.out.wr.below
   go_upto_region 8 with fail
   have HD5 := Lib.hid H5.out.drew
   go_region_with (go_at_call 100; refine (HD5.out.lput2 s [58] HSN.out ⟨by simp, by simp⟩ hb5).mono ?_; rintro e w6 ⟨rfl, hW6, hk6⟩)
   have H6 := Lib.hid (HD5.out.go oEx oEx hW6 hk6)
   clear hW6 hk6
   clear x0 x1 x2 x3 x4 x5 x6 y0 y1 y2 y3 y4 y5 y6 hl1 hl2 hbl
   obtain ⟨x0, x1, x2, x3, x4, x5, x6⟩ := zbZ H6.out.b1
   obtain ⟨y0, y1, y2, y3, y4, y5, y6⟩ := zbZ H6.out.b2
   obtain ⟨hl1, hl2, hbl⟩ := H6.out.lt
   go_wp2_with (go_at_call 64; refine (hE.out _ w6 HTY.out H6.out.wr).mono ?_; rintro e w7 ⟨rfl, hW7, hk7⟩)
   have H7 := Lib.hid (H6.out.go oEx oEx hW7 hk7)
   clear hW7 hk7
   clear x0 x1 x2 x3 x4 x5 x6 y0 y1 y2 y3 y4 y5 y6 hl1 hl2 hbl
   go_roundg (k - (m + 1))
   case measure => have := HI.out; omega
   case rel =>
    refine ⟨m + 1, rfl, by simp, hlt, ?_, H7.out.kp⟩
    rw [HPT.out]
    simpa [List.append_assoc] using H7.out.wr
  ·have hmi : ¬ (m : Int) < (k : Int) := by omega
   have hb7 : (l ++ [x.s, [123]] ++ Sx.record SY 0 (x.names.take m) (x.parts.take m)).length + 1 ≤ 1000000000 := by simp; omega
   have HW := Lib.hid hW
   have hblr := hW.lt
   have HTK := Lib.hid (List.take_of_length_le (show x.parts.length ≤ m by have := HK.out; omega))
   have HTN := Lib.hid (List.take_of_length_le (show x.names.length ≤ m by have := HK.out; have := HNS.out; omega))
   clear hi hW hkw
   go_wp2_with (go_at_call 100; refine (put1 (s := [125]) HW.out ⟨by simp, by simp⟩ hb7).mono ?_; rintro e w7 ⟨rfl, hW7, hk7⟩)
   go_end0
   refine ⟨rfl, ?_, HKR.out.trans hk7⟩
   rw [HRE.out]
   have h8 := hW7.tight
   rw [HTK.out, HTN.out] at h8
   simpa [List.append_assoc] using h8
set_option maxRecDepth 100000 in
set_option maxHeartbeats 8000000 in
theorem ziuZ {W0 : World} {b : Nat} {x : Sx.Ex} (ih : ∀ p ∈ x.parts, ExprOk W0 b p) (hkd : x.kind = 8) : RecOk W0 b x := by
 intro v l w hr ht hz h hc
 obtain ⟨hsh, hrp⟩ := hr.shape
 obtain ⟨hgr, hns, hap⟩ := Sx.shape78 (by omega) hsh
 have hsz := Sx.sizeX_parts x
 have hxl := Sx.length_sizeXs x.parts
 have hsl := Sx.textX_len x
 have hsne := NM.ok.great _ hgr
 have hre : Sx.rec x = [[110, 101, 119]] ++ [x.s, [123]] ++ Sx.record SY 0 x.names x.parts ++ [[125]] := by unfold Sx.rec; rw [hkd]; simp
 have hlen : (Sx.rec x).length = (Sx.record SY 0 x.names x.parts).length + 4 := by rw [hre]; simp
 obtain ⟨lf, hlf⟩ : ∃ lf, (Sx.record SY 0 x.names x.parts).length = lf := ⟨_, rfl⟩
 have hbf : l.length + lf + 4 ≤ 900000000 := by omega
 obtain ⟨At, ct, An, cn, Ap, cp, rfl, -, hnm, hp, -⟩ := ht.agg
 obtain ⟨k, hk⟩ : ∃ k, x.parts.length = k := ⟨_, rfl⟩
 rw [hk] at hp ⊢
 rw [hkd]
 have hki : (k : Int) ≤ 1000000 := by omega
 have hk0 : (0 : Int) ≤ (k : Int) := by omega
 have hss : x.s ≠ [] ∧ x.s.length ≤ 1000000000 := ⟨hsne, by omega⟩
 have hb0 : l.length + 1 ≤ 1000000000 := by omega
 have hb1 : (l ++ [[110, 101, 119]]).length + 2 ≤ 1000000000 := by simp; omega
 obtain ⟨L, hL⟩ : ∃ L, w.heap.size = L := ⟨_, rfl⟩
 obtain ⟨w2, hw2⟩ : ∃ w2, w.alloc (.cells #[.int .i64 x.pos, .int .i64 8, .int .i64 x.n, .string ⟨x.s.toArray⟩, .slice At x.t.length ct, .slice An x.names.length cn, .slice Ap k cp] 39) = w2 := ⟨_, rfl⟩
 have hlv := Live.first h #[.int .i64 x.pos, .int .i64 8, .int .i64 x.n, .string ⟨x.s.toArray⟩, .slice At x.t.length ct, .slice An x.names.length cn, .slice Ap k cp] 39 hw2
 rw [hL] at hlv
 have H2 := Lib.hid hlv
 clear hlv h
 have HK := Lib.hid hk
 have HP := Lib.hid hp
 have HNM := Lib.hid hnm
 have HNS := Lib.hid (show x.names.length = x.parts.length from (hns.symm))
 have HAP := Lib.hid (show ∀ s ∈ x.names, s ≠ [] ∧ s.length ≤ 1000000000 from fun s hs => ⟨NM.ok.small _ (Sx.apart_small hap s hs), by have := Sx.nameX_len hs; omega⟩)
 have HRP := Lib.hid hrp
 have HZ := Lib.hid (show Sx.sizeXs x.parts ≤ 1000000 by omega)
 have HIH := Lib.hid ih
 have HLF := Lib.hid hlf
 have HRE := Lib.hid hre
 have HSS := Lib.hid hss
 clear hk hp hnm hns hap hrp hsh hgr hsz hxl hsl hsne hre hlen hlf ih hr ht hz hc hkd hss
 go_enter Tryz.func115, Tryz.ntmps115
 obtain ⟨x0, x1, x2, x3, x4, x5, x6⟩ := zbZ H2.out.b1
 obtain ⟨hl1, hl2, hbl⟩ := H2.out.lt
 go_upto_region 3 with (go_at_call 100; refine (H2.out.lput1 [110, 101, 119] ⟨by simp, by simp⟩ hb0).mono ?_; rintro e w3 ⟨rfl, hW3, hk3⟩)
 have H3 := Lib.hid (H2.out.go oEx oEx hW3 hk3)
 clear hW3 hk3
 clear x0 x1 x2 x3 x4 x5 x6 hl1 hl2 hbl
 obtain ⟨x0, x1, x2, x3, x4, x5, x6⟩ := zbZ H3.out.b1
 obtain ⟨hl1, hl2, hbl⟩ := H3.out.lt
 go_upto_region 3 with fail
 have HD3 := Lib.hid H3.out.drew
 go_region_with (go_at_call 100; refine (HD3.out.lput2 x.s [123] HSS.out ⟨by simp, by simp⟩ hb1).mono ?_; rintro e w4 ⟨rfl, hW4, hk4⟩)
 have H4 := Lib.hid (HD3.out.go oEx oEx hW4 hk4)
 clear hW4 hk4
 clear x0 x1 x2 x3 x4 x5 x6 hl1 hl2 hbl
 obtain ⟨x0, x1, x2, x3, x4, x5, x6⟩ := zbZ H4.out.b1
 obtain ⟨hl1, hl2, hbl⟩ := H4.out.lt
 go_wp2_with fail
 clear x0 x1 x2 x3 x4 x5 x6 hl1 hl2 hbl
 have HS := Lib.hid (show Wrote W0 b (l ++ [[110, 101, 119]] ++ [x.s, [123]] ++ Sx.record SY 0 (x.names.take 0) (x.parts.take 0)).length (l ++ [[110, 101, 119]] ++ [x.s, [123]] ++ Sx.record SY 0 (x.names.take 0) (x.parts.take 0)) w4 by simpa [Sx.record] using H4.out.wr)
 go_loopg [24] k (fun i v wr => ∃ (m : Nat), i = k - m ∧ v = .int .i64 (m : Int) ∧ m ≤ k ∧ Wrote W0 b (l ++ [[110, 101, 119]] ++ [x.s, [123]] ++ Sx.record SY 0 (x.names.take m) (x.parts.take m)).length (l ++ [[110, 101, 119]] ++ [x.s, [123]] ++ Sx.record SY 0 (x.names.take m) (x.parts.take m)) wr ∧ KeepW w4 wr)
 case atStart => exact ⟨0, rfl, rfl, Nat.zero_le _, HS.out, KeepW.refl _⟩
 case round =>
  obtain ⟨m, hi, rfl, hm, hW, hkw⟩ := hrel
  have hle := Sx.record_pre SY x.names x.parts 0 m
  have HI := Lib.hid hi
  have m0 : (0 : Int) ≤ (m : Int) := by omega
  have HBX := Lib.hid (hkw _ _ _ _ H4.out.b1 oEx.1 oEx.2)
  have HKR := Lib.hid (H4.out.kp.trans hkw)
  have HK3R := Lib.hid hkw
  rw [HLF.out] at hle
  by_cases hlt : m < k
  ·have hmi : (m : Int) < (k : Int) := by omega
   have hmp : m < x.parts.length := by have := HK.out; omega
   have hmn : m < x.names.length := by have := HNS.out; omega
   have hmni : (m : Int) < (x.names.length : Int) := by omega
   have hle2 := Sx.record_pre SY x.names x.parts 0 (m + 1)
   have HWR := Lib.hid hW
   clear hi hW hkw
   obtain ⟨g, off, At1, ct1, An1, cn1, Aq, cq, rfl, hty, hc7⟩ := HP.out.spot m hmp
   obtain ⟨p, hxe⟩ : ∃ p, x.parts[m]'hmp = p := ⟨_, rfl⟩
   have hmem : p ∈ x.parts := by rw [← hxe]; exact List.getElem_mem hmp
   have hpt := Sx.record_take HNS.out hmp
   rw [hxe] at hc7 hty hpt
   obtain ⟨hg, c0, c1, c2, c3, c4, c5, c6⟩ := hc7 wr HWR.out.below
   have hxs := Sx.sizeX_mem hmem
   have hxz : Sx.sizeX p ≤ 1000000 := by have := HZ.out; omega
   obtain ⟨q, hq⟩ : ∃ q, Sx.expr SY p = q := ⟨_, rfl⟩
   rw [hq] at hpt
   obtain ⟨g1, off1, rfl, hsp1⟩ := HNM.out.spot m hmn
   obtain ⟨s, hse⟩ : ∃ s, x.names[m]'hmn = s := ⟨_, rfl⟩
   have hsm : s ∈ x.names := by rw [← hse]; exact List.getElem_mem hmn
   have HSN := Lib.hid (HAP.out s hsm)
   rw [hse] at hsp1 hpt
   have HS1 := Lib.hid hsp1
   rw [hpt, HLF.out] at hle2
   obtain ⟨lm, hlm⟩ : ∃ lm, Sx.record SY 0 (x.names.take m) (x.parts.take m) = lm := ⟨_, rfl⟩
   rw [hlm] at hpt hle2
   have HW1 := Lib.hid (show Wrote W0 b (l ++ [[110, 101, 119]] ++ [x.s, [123]] ++ lm).length (l ++ [[110, 101, 119]] ++ [x.s, [123]] ++ lm) wr by rw [← hlm]; exact HWR.out)
   obtain ⟨cm, hcm⟩ : ∃ cm : List Lx.Bytes, (if 0 < m then [[44]] else []) = cm := ⟨_, rfl⟩
   have hcml : cm.length ≤ 1 := by rw [← hcm]; split <;> simp
   rw [hcm] at hpt hle2
   simp only [List.length_append, List.length_cons, List.length_nil] at hle2
   have hb4 : (l ++ [[110, 101, 119]] ++ [x.s, [123]] ++ lm).length + 1 ≤ 1000000000 := by simp; omega
   have hb5 : (l ++ [[110, 101, 119]] ++ [x.s, [123]] ++ lm ++ cm).length + 2 ≤ 1000000000 := by simp; omega
   have hb6 : (l ++ [[110, 101, 119]] ++ [x.s, [123]] ++ lm ++ cm ++ [s, [58]]).length + q.length ≤ 900000000 := by simp; omega
   have hE := Lib.hid (show ∀ u w, IsEx W0 u p → Wrote W0 b (l ++ [[110, 101, 119]] ++ [x.s, [123]] ++ lm ++ cm ++ [s, [58]]).length (l ++ [[110, 101, 119]] ++ [x.s, [123]] ++ lm ++ cm ++ [s, [58]]) w → Calls Tryz.prog 64 #[.pointer (some ⟨b, 0, none⟩), u] w fun e w' => e = .returned (.tuple #[]) ∧ Wrote W0 b (l ++ [[110, 101, 119]] ++ [x.s, [123]] ++ lm ++ cm ++ [s, [58]] ++ q).length (l ++ [[110, 101, 119]] ++ [x.s, [123]] ++ lm ++ cm ++ [s, [58]] ++ q) w' ∧ KeepW w w' from fun u w hu hw => by
    have := HIH.out p hmem u (l ++ [[110, 101, 119]] ++ [x.s, [123]] ++ lm ++ cm ++ [s, [58]]) w (HRP.out p hmem) hu hxz hw (by rw [hq]; exact hb6)
    rwa [hq] at this)
   have hCm := Lib.hid (show ∀ w, Wrote W0 b (l ++ [[110, 101, 119]] ++ [x.s, [123]] ++ lm).length (l ++ [[110, 101, 119]] ++ [x.s, [123]] ++ lm) w → Calls Tryz.prog 131 #[.pointer (some ⟨b, 0, none⟩), .int .i64 (m : Int)] w fun e w' => e = .returned (.tuple #[]) ∧ Wrote W0 b ((l ++ [[110, 101, 119]] ++ [x.s, [123]] ++ lm).length + 1) (l ++ [[110, 101, 119]] ++ [x.s, [123]] ++ lm ++ cm) w' ∧ KeepW w w' from fun w hw => by
    have := zctZ m hw (by omega) hb4
    rwa [hcm] at this)
   have hlv0 : Live W0 b (l ++ [[110, 101, 119]] ++ [x.s, [123]] ++ lm) w4 wr L _ _ L _ _ := ⟨HW1.out, HK3R.out, HBX.out, HBX.out⟩
   obtain ⟨x0, x1, x2, x3, x4, x5, x6⟩ := zbZ hlv0.b1
   obtain ⟨hl1, hl2, hbl⟩ := hlv0.lt
   obtain ⟨L4, hL4⟩ : ∃ L4, wr.heap.size = L4 := ⟨_, rfl⟩
   obtain ⟨w4, hw4⟩ : ∃ w4, wr.alloc (.cells #[.int .i64 p.pos, .int .i64 p.kind, .int .i64 p.n, .string ⟨p.s.toArray⟩, .slice At1 p.t.length ct1, .slice An1 p.names.length cn1, .slice Aq p.parts.length cq] 39) = w4 := ⟨_, rfl⟩
   have hlv := hlv0.box #[.int .i64 p.pos, .int .i64 p.kind, .int .i64 p.n, .string ⟨p.s.toArray⟩, .slice At1 p.t.length ct1, .slice An1 p.names.length cn1, .slice Aq p.parts.length cq] 39 hw4
   rw [hL4] at hlv
   have H4 := Lib.hid hlv
   have HTY := Lib.hid hty
   have HPT := Lib.hid hpt
   clear hlv0 hlv hty hpt hcm hlm hq hmem hxe hc7 hxs hxz hse hsm hsp1
   clear x0 x1 x2 x3 x4 x5 x6 hl1 hl2 hbl
   obtain ⟨x0, x1, x2, x3, x4, x5, x6⟩ := zbZ HBX.out
   have hlr := zaZ HBX.out
   obtain ⟨x0, x1, x2, x3, x4, x5, x6⟩ := zbZ H4.out.b1
   obtain ⟨y0, y1, y2, y3, y4, y5, y6⟩ := zbZ H4.out.b2
   obtain ⟨hl1, hl2, hbl⟩ := H4.out.lt
   go_upto_region 8 with (go_at_call 131; refine (hCm.out w4 H4.out.wr).mono ?_; rintro e w5 ⟨rfl, hW5, hk5⟩)
   have H5 := Lib.hid (H4.out.go oEx oEx hW5 hk5)
   clear hW5 hk5
   clear x0 x1 x2 x3 x4 x5 x6 y0 y1 y2 y3 y4 y5 y6 hl1 hl2 hbl
   obtain ⟨x0, x1, x2, x3, x4, x5, x6⟩ := zbZ H5.out.b1
   obtain ⟨y0, y1, y2, y3, y4, y5, y6⟩ := zbZ H5.out.b2
   obtain ⟨hl1, hl2, hbl⟩ := H5.out.lt
   obtain ⟨q0, q1⟩ := HS1.out w5 H5.out.wr.below
   go_upto_region 8 with fail
   have HD5 := Lib.hid H5.out.drew
   go_region_with (go_at_call 100; refine (HD5.out.lput2 s [58] HSN.out ⟨by simp, by simp⟩ hb5).mono ?_; rintro e w6 ⟨rfl, hW6, hk6⟩)
   have H6 := Lib.hid (HD5.out.go oEx oEx hW6 hk6)
   clear hW6 hk6
   clear x0 x1 x2 x3 x4 x5 x6 y0 y1 y2 y3 y4 y5 y6 hl1 hl2 hbl
   obtain ⟨x0, x1, x2, x3, x4, x5, x6⟩ := zbZ H6.out.b1
   obtain ⟨y0, y1, y2, y3, y4, y5, y6⟩ := zbZ H6.out.b2
   obtain ⟨hl1, hl2, hbl⟩ := H6.out.lt
   go_wp2_with (go_at_call 64; refine (hE.out _ w6 HTY.out H6.out.wr).mono ?_; rintro e w7 ⟨rfl, hW7, hk7⟩)
   have H7 := Lib.hid (H6.out.go oEx oEx hW7 hk7)
   clear hW7 hk7
   clear x0 x1 x2 x3 x4 x5 x6 y0 y1 y2 y3 y4 y5 y6 hl1 hl2 hbl
   go_roundg (k - (m + 1))
   case measure => have := HI.out; omega
   case rel =>
    refine ⟨m + 1, rfl, by simp, hlt, ?_, H7.out.kp⟩
    rw [HPT.out]
    simpa [List.append_assoc] using H7.out.wr
  ·have hmi : ¬ (m : Int) < (k : Int) := by omega
   have hb7 : (l ++ [[110, 101, 119]] ++ [x.s, [123]] ++ Sx.record SY 0 (x.names.take m) (x.parts.take m)).length + 1 ≤ 1000000000 := by simp; omega
   have HW := Lib.hid hW
   have hblr := hW.lt
   have HTK := Lib.hid (List.take_of_length_le (show x.parts.length ≤ m by have := HK.out; omega))
   have HTN := Lib.hid (List.take_of_length_le (show x.names.length ≤ m by have := HK.out; have := HNS.out; omega))
   clear hi hW hkw
   go_wp2_with (go_at_call 100; refine (put1 (s := [125]) HW.out ⟨by simp, by simp⟩ hb7).mono ?_; rintro e w7 ⟨rfl, hW7, hk7⟩)
   go_end0
   refine ⟨rfl, ?_, HKR.out.trans hk7⟩
   rw [HRE.out]
   have h8 := hW7.tight
   rw [HTK.out, HTN.out] at h8
   simpa [List.append_assoc] using h8
end Go.Proofs.YtdncljdfmdgdaaaGreatDoor
