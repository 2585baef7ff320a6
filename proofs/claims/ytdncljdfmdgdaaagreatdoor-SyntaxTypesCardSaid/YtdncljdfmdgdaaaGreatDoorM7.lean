/-
  The walk of (*cutter).token.
-/
/-
 The walk of (*cutter).token.
 One round of the cut, in plain Lean: what the walk of 'cut' asks.
 The walk of 'cut' with the callee that goes on (Tokens' own).
 The walk of Quote.
 'for x := range seq { body }' over an iterator that keeps state of its own in cells of one type (T): the statement's law, out of the round's, the statement's and the record's steps.
-/
import Derived.Test.YtdncljdfmdgdaaaGreatDoorM6
import Derived.Test.YtdncljdfmdgdaaaGreatDoorM3
import Derived.RangeFuncNested
import Derived.RangeFuncBound
import Derived.RangeFuncCalls
import Derived.RangeFuncLeaves
import Derived.Shelf.Abstract
import Derived.Shelf.RegionOpen
import Derived.WalkKit
import Derived.OwnWalkIn
import Derived.TacticsInMore
import Derived.LoopNIn
import Derived.LoopIn
namespace Go.Proofs.YtdncljdfmdgdaaaGreatDoor
open Go.RowKit
set_option linter.unusedSimpArgs false
set_option linter.unusedVariables false
section
variable {w w' : World} {b k n : Nat} {s : ByteArray} {p : Int} {r : Lx.Res} {t : Lx.Tok} {e : Ending}
theorem ResIs.ok' (hr : r = .ok t n) (h : ResIs p b s k w r e w') : e = .returned (.tuple #[.agg #[.int .i64 t.pos, .int .i64 t.kind, .string ⟨t.s.toArray⟩, .int .i64 t.n], .pointer none]) ∧ w.grownBy w' (some b) ∧ Cu w' b s (k + n) := by
 subst hr; exact ⟨h.2.1, h.1, h.2.2⟩
theorem ResIs.bad' {y x : Nat} (hr : r = .bad y x) (h : ResIs p b s k w r e w') :
  ∃ g j, e = .returned (.tuple #[.agg #[.int .i64 p, .int .i64 0, .string ⟨#[]⟩, .int .i64 0], .pointer (some ⟨g, 0, none⟩)]) ∧ w.grownBy w' (some b) ∧ IsRef w' g x y ∧ w.heap.size ≤ g ∧ Cu w' b s j := by
 subst hr
 obtain ⟨hg, g, j, h1, h2, h3, h4⟩ := h
 exact ⟨g, j, h1, hg, h2, h3, h4⟩
theorem resBad3 {wq : World} {g g2 j y x : Nat} (hr : r = .bad y x) (hg : w.grownBy wq (some b)) (hC : Cu wq b s j) (hbg : b < g) (hwg : w.heap.size ≤ g) (hR : IsRef wq g2 x y) (h2 : g < g2) (c0 c1 c2 c3 : Value) :
  ResIs p b s k w r (.returned (.tuple #[.agg #[.int .i64 p, .int .i64 0, .string ⟨#[]⟩, .int .i64 0], .pointer (some ⟨g2, 0, none⟩)]))
   ((((wq.setCell ⟨g, 0, none⟩ c0).setCell ⟨g, 1, none⟩ c1).setCell ⟨g, 2, none⟩ c2).setCell ⟨g, 3, none⟩ c3) := by
 subst hr
 refine ⟨znZ hg ((((zhZ _ _ _ _).trans (zhZ _ _ _ _)).trans (zhZ _ _ _ _)).trans (zhZ _ _ _ _)) hwg, g2, j, rfl, ?_, by omega, ?_⟩
 ·have hne : g2 ≠ g := by omega
  exact (Below.heap_setCell _ ⟨g, 3, none⟩ _ g2 hne).trans ((Below.heap_setCell _ ⟨g, 2, none⟩ _ g2 hne).trans ((Below.heap_setCell _ ⟨g, 1, none⟩ _ g2 hne).trans ((Below.heap_setCell _ ⟨g, 0, none⟩ _ g2 hne).trans hR)))
 ·exact ((((hC.far (by omega) _ _).far (by omega) _ _).far (by omega) _ _).far (by omega) _ _)
end
section
variable {s : ByteArray} {k : Nat} (hk : k < s.size)
theorem zlhZ (h : Lx.letter (s[k]'hk) = true) : Lx.cut k (s.data.toList.drop k) = Lx.cutName k (s.data.toList.drop k) := by
 rw [byte_at s k hk]; simp [Lx.cut, h]
theorem ziiZ (h : Lx.letter (s[k]'hk) = false) (h1 : Lx.digit (s[k]'hk) = true) : Lx.cut k (s.data.toList.drop k) = Lx.cutNumber k (s.data.toList.drop k) := by
 rw [byte_at s k hk]; simp [Lx.cut, h, h1]
theorem zliZ (h : Lx.letter (s[k]'hk) = false) (h1 : Lx.digit (s[k]'hk) = false) (h2 : (s[k]'hk).toNat = 34) : Lx.cut k (s.data.toList.drop k) = Lx.quoted k (s.data.toList.drop (k + 1)) [] 1 := by
 rw [byte_at s k hk]; simp [Lx.cut, h, h1, h2]
theorem zljZ (h : Lx.letter (s[k]'hk) = false) (h1 : Lx.digit (s[k]'hk) = false) (h2 : (s[k]'hk).toNat = 61) (hk2 : k + 1 < s.size) (h3 : (s[k + 1]'hk2).toNat = 61) : Lx.cut k (s.data.toList.drop k) = .ok ⟨k, 6, [61, 61], 0⟩ 2 := by
 have e : s[k + 1]'hk2 = 61 := (u8_eq _ 61 (by decide)).1 h3
 rw [byte_at s k hk, byte_at s (k + 1) hk2]; simp [Lx.cut, h, h1, h2, e]
theorem cut_one (h : Lx.letter (s[k]'hk) = false) (h1 : Lx.digit (s[k]'hk) = false) (h2 : (s[k]'hk).toNat ≠ 34) (h3 : (s[k]'hk).toNat = 61 → ∀ hk2 : k + 1 < s.size, (s[k + 1]'hk2).toNat ≠ 61) : Lx.cut k (s.data.toList.drop k) = .ok ⟨k, 6, [s[k]'hk], 0⟩ 1 := by
 rw [byte_at s k hk]
 have e : ((s[k]'hk).toNat == 61 && (s.data.toList.drop (k + 1)).head? == some 61) = false := by
  rw [Bool.and_eq_false_iff]
  by_cases hq : (s[k]'hk).toNat = 61
  ·right
   by_cases hk2 : k + 1 < s.size
   ·rw [byte_at s (k + 1) hk2]
    have := h3 hq hk2
    have e : ¬ s[k + 1]'hk2 = 61 := fun he => this (by rw [he]; rfl)
    simpa using e
   ·rw [List.drop_eq_nil_of_le (by rw [zgZ]; omega)]
    rfl
  ·left; simpa using hq
 show (if Lx.letter (s[k]'hk) then _ else if Lx.digit (s[k]'hk) then _ else if (s[k]'hk).toNat == 34 then _ else if ((s[k]'hk).toNat == 61 && (s.data.toList.drop (k + 1)).head? == some 61) then _ else _) = _
 rw [e, h, h1]
 simp [h2]
end
theorem zijZ {c : UInt8} (h : Lx.begins c = true) (h0 : Lx.letter c = false) (h1 : Lx.digit c = false) (h2 : ¬ c.toNat = 34) : c.toNat < 128 := by
 simp only [Lx.begins, h0, h1, Bool.false_or, Bool.or_eq_true, beq_iff_eq] at h
 rcases h with h | h
 ·exact absurd h h2
 ·have := List.contains_iff_mem.1 h
  have hall : ∀ x ∈ Lx.signs, x.toNat < 128 := by decide
  exact hall _ this
theorem zgqZ (c : UInt8) (h : c.toNat < 128) : Utf8.encode (c.toNat : Int) = ⟨#[c]⟩ := by
 have hv : Utf8.valid (c.toNat : Int) = true := by
  simp [Utf8.valid]; omega
 unfold Utf8.encode
 simp [hv, h]
set_option maxRecDepth 100000 in
set_option maxHeartbeats 8000000 in
theorem zgrZ (s : ByteArray) (b k : Nat) (w : World) (hc : Cu w b s k) (hk : k < s.size) (hs : s.size ≤ 140737488351232) (hG : GS w) (hb : NG ≤ b) (hbeg : Lx.begins (s[k]'hk) = true) :
  Calls Tryz.prog 127 #[.pointer (some ⟨b, 0, none⟩)] w
   (ResIs k b s k w (Lx.cut k (s.data.toList.drop k))) := by
 have HC0 := Lib.hid hc
 have hbw := hc.lt
 have hi : (k : Int) < (s.size : Int) := by omega
 have hi0 : (0 : Int) ≤ (k : Int) := by omega
 have hCb := hc.alloc (.cells #[.int .i64 0, .int .i64 0, .string ⟨#[]⟩, .int .i64 0] 133)
 have c0 := hCb.c0
 have c1 := hCb.c1
 have cf1 := hCb.f1
 clear hc hCb
 have k1 : (k : Int) ≤ 140737488351232 := by omega
 go_enter Tryz.func127, Tryz.ntmps127
 go_wp2
 go_quiet (fail)
 obtain ⟨w3, hw3⟩ : ∃ w3, (w.alloc (.cells #[.int .i64 0, .int .i64 0, .string ⟨#[]⟩, .int .i64 0] 133)).drewN nq = w3 := ⟨_, rfl⟩
 have hz3 : w3.heap[w.heap.size]? = some (.cells #[.int .i64 0, .int .i64 0, .string ⟨#[]⟩, .int .i64 0] 133 (0, 0)) := by rw [← hw3]; exact heap_alloc_new w _
 have hg3 : w.grownBy w3 (some b) := by rw [← hw3]; exact (World.grownBy_alloc _ _ _).trans (ziZ _ _ _)
 have hC3 : Cu w3 b s k := by rw [← hw3]; exact (HC0.out.alloc _).drewN _
 have hs3 : w3.heap.size = w.heap.size + 1 := by rw [← hw3]; simp
 rw [hw3]
 clear c0 c1 cf1 hw3
 have c0 := hC3.c0
 have c1 := hC3.c1
 have cf1 := hC3.f1
 go_upto_region 3 with fail
 clear c0 c1 cf1
 have hg4 : w.grownBy (w3.alloc (.cells #[.int .i64 k, .int .i64 0, .string ⟨#[]⟩, .int .i64 0] 133)) (some b) := hg3.trans (World.grownBy_alloc _ _ _)
 have hC4 := hC3.alloc (.cells #[.int .i64 k, .int .i64 0, .string ⟨#[]⟩, .int .i64 0] 133)
 have hz4 := heap_alloc hz3 (.cells #[.int .i64 k, .int .i64 0, .string ⟨#[]⟩, .int .i64 0] 133)
 have ht4 := heap_alloc_new w3 (.cells #[.int .i64 k, .int .i64 0, .string ⟨#[]⟩, .int .i64 0] 133)
 have hs4 : w.heap.size + 2 ≤ (w3.alloc (.cells #[.int .i64 k, .int .i64 0, .string ⟨#[]⟩, .int .i64 0] 133)).heap.size := by simp; omega
 obtain ⟨w4, hw4⟩ : ∃ w4, w3.alloc (.cells #[.int .i64 k, .int .i64 0, .string ⟨#[]⟩, .int .i64 0] 133) = w4 := ⟨_, rfl⟩
 rw [hw4] at hg4 hC4 hz4 ht4 hs4 ⊢
 rw [hs3] at ht4
 have hzl : w.heap.size < w4.heap.size := by omega
 have hgl' : w.heap.size + 1 < w4.heap.size := by omega
 have hbl4 : b < w4.heap.size := by omega
 have HG4 := Lib.hid hg4
 have HC4 := Lib.hid hC4
 have HZ4 := Lib.hid hz4
 have hG4 : GS w4 := hG.grown hg4 hb
 clear hw4 hz3 hg3 hC3
 obtain ⟨t0, t1, t2, t3⟩ := zfZ ht4
 obtain ⟨tf0, tf1, tf2, tf3⟩ := zjZ ht4
 have HT4 := Lib.hid ht4
 clear hg4 hC4 hz4 ht4
 by_cases hL : Lx.letter (s[k]'hk) = true
 ·
  have HX := Lib.hid (zlhZ hk hL)
  cases hr : Lx.cutName k (s.data.toList.drop k) with
  | ok t n =>
   have HR := Lib.hid hr
   clear hr
   go_wp2_with (first | (go_at_call 142; refine (zpZ _ _).mono ?_; rintro e w' ⟨rfl, rfl⟩) | (go_at_call 145; refine (lexName s b k w4 HC4.out hk hs hG4 hb hL).mono ?_; intro e w5 hres; obtain ⟨rfl, hg5, hC5⟩ := ResIs.ok' HR.out hres; clear hres; have hz5 := (hg5.block _ hzl (by simp; omega)).trans HZ4.out; obtain ⟨z0, z1, z2, z3⟩ := zfZ hz5; obtain ⟨zf0, zf1, zf2, zf3⟩ := zjZ hz5))
   refine bodyPost_ret (v := .tuple #[.agg #[.int .i64 t.pos, .int .i64 t.kind, .string ⟨t.s.toArray⟩, .int .i64 t.n], .pointer none]) (by simp [results, Tryz.results127, go_sem, z0, z1, z2, z3, zf0, zf1, zf2, zf3]) rfl ?_
   exact resOk (wq := w5) (g := w.heap.size) (m := k + n) (t := t) (n := n) (p := (k : Int)) (a0 := t.pos) (a1 := t.kind) (a2 := ⟨t.s.toArray⟩) (a3 := t.n) (HX.out.trans HR.out) rfl rfl rfl (by rfl) rfl (HG4.out.trans hg5) hC5 hbw (Nat.le_refl _) _ _ _ _
  | bad y x =>
   have HR := Lib.hid hr
   clear hr
   go_wp2_with (first | (go_at_call 142; refine (zpZ _ _).mono ?_; rintro e w' ⟨rfl, rfl⟩) | (go_at_call 145; refine (lexName s b k w4 HC4.out hk hs hG4 hb hL).mono ?_; intro e w5 hres; obtain ⟨g, j, rfl, hg5, hR5, hgl, hC5⟩ := ResIs.bad' HR.out hres; clear hres; have hz5 := (hg5.block _ hzl (by simp; omega)).trans HZ4.out; obtain ⟨z0, z1, z2, z3⟩ := zfZ hz5; obtain ⟨zf0, zf1, zf2, zf3⟩ := zjZ hz5))
   refine bodyPost_ret (v := .tuple #[.agg #[.int .i64 k, .int .i64 0, .string ⟨#[]⟩, .int .i64 0], .pointer (some ⟨g, 0, none⟩)]) (by simp [results, Tryz.results127, go_sem, z0, z1, z2, z3, zf0, zf1, zf2, zf3]) rfl ?_
   exact resBad3 (wq := w5) (g := w.heap.size) (g2 := g) (j := j) (y := y) (x := x) (p := (k : Int)) (HX.out.trans HR.out) (HG4.out.trans hg5) hC5 hbw (Nat.le_refl _) hR5 (by omega) _ _ _ _
 ·have hL0 : Lx.letter (s[k]'hk) = false := by simpa using hL
  clear hL
  by_cases hD : Lx.digit (s[k]'hk) = true
  ·
   have HX := Lib.hid (ziiZ hk hL0 hD)
   cases hr : Lx.cutNumber k (s.data.toList.drop k) with
   | ok t n =>
    have HR := Lib.hid hr
    clear hr
    go_wp2_with (first | (go_at_call 142; refine (zpZ _ _).mono ?_; rintro e w' ⟨rfl, rfl⟩) | (go_at_call 143; refine (zbbZ _ _).mono ?_; rintro e w' ⟨rfl, rfl⟩) | (go_at_call 146; refine (zfqZ s b k w4 HC4.out hk hs hG4 hb hD).mono ?_; intro e w5 hres; obtain ⟨rfl, hg5, hC5⟩ := ResIs.ok' HR.out hres; clear hres; have hz5 := (hg5.block _ hzl (by simp; omega)).trans HZ4.out; obtain ⟨z0, z1, z2, z3⟩ := zfZ hz5; obtain ⟨zf0, zf1, zf2, zf3⟩ := zjZ hz5))
    refine bodyPost_ret (v := .tuple #[.agg #[.int .i64 t.pos, .int .i64 t.kind, .string ⟨t.s.toArray⟩, .int .i64 t.n], .pointer none]) (by simp [results, Tryz.results127, go_sem, z0, z1, z2, z3, zf0, zf1, zf2, zf3]) rfl ?_
    exact resOk (wq := w5) (g := w.heap.size) (m := k + n) (t := t) (n := n) (p := (k : Int)) (a0 := t.pos) (a1 := t.kind) (a2 := ⟨t.s.toArray⟩) (a3 := t.n) (HX.out.trans HR.out) rfl rfl rfl (by rfl) rfl (HG4.out.trans hg5) hC5 hbw (Nat.le_refl _) _ _ _ _
   | bad y x =>
    have HR := Lib.hid hr
    clear hr
    go_wp2_with (first | (go_at_call 142; refine (zpZ _ _).mono ?_; rintro e w' ⟨rfl, rfl⟩) | (go_at_call 143; refine (zbbZ _ _).mono ?_; rintro e w' ⟨rfl, rfl⟩) | (go_at_call 146; refine (zfqZ s b k w4 HC4.out hk hs hG4 hb hD).mono ?_; intro e w5 hres; obtain ⟨g, j, rfl, hg5, hR5, hgl, hC5⟩ := ResIs.bad' HR.out hres; clear hres; have hz5 := (hg5.block _ hzl (by simp; omega)).trans HZ4.out; obtain ⟨z0, z1, z2, z3⟩ := zfZ hz5; obtain ⟨zf0, zf1, zf2, zf3⟩ := zjZ hz5))
    refine bodyPost_ret (v := .tuple #[.agg #[.int .i64 k, .int .i64 0, .string ⟨#[]⟩, .int .i64 0], .pointer (some ⟨g, 0, none⟩)]) (by simp [results, Tryz.results127, go_sem, z0, z1, z2, z3, zf0, zf1, zf2, zf3]) rfl ?_
    exact resBad3 (wq := w5) (g := w.heap.size) (g2 := g) (j := j) (y := y) (x := x) (p := (k : Int)) (HX.out.trans HR.out) (HG4.out.trans hg5) hC5 hbw (Nat.le_refl _) hR5 (by omega) _ _ _ _
  ·have hD0 : Lx.digit (s[k]'hk) = false := by simpa using hD
   clear hD
   by_cases h34 : (s[k]'hk).toNat = 34
   ·have B34 : (((s[k]'hk).toNat : Int) == 34) = true := by simp; omega
    have H34 := Lib.hid h34
    clear h34
    have HX := Lib.hid (zliZ hk hL0 hD0 H34.out)
    cases hr : Lx.quoted k (s.data.toList.drop (k + 1)) [] 1 with
    | ok t n =>
     have HR := Lib.hid hr
     clear hr
     go_wp2_with (first | (go_at_call 142; refine (zpZ _ _).mono ?_; rintro e w' ⟨rfl, rfl⟩) | (go_at_call 143; refine (zbbZ _ _).mono ?_; rintro e w' ⟨rfl, rfl⟩) | (go_at_call 147; refine (lexText s b k w4 HC4.out hk hs hG4 hb).mono ?_; intro e w5 hres; obtain ⟨rfl, hg5, hC5⟩ := ResIs.ok' HR.out hres; clear hres; have hz5 := (hg5.block _ hzl (by simp; omega)).trans HZ4.out; obtain ⟨z0, z1, z2, z3⟩ := zfZ hz5; obtain ⟨zf0, zf1, zf2, zf3⟩ := zjZ hz5))
     refine bodyPost_ret (v := .tuple #[.agg #[.int .i64 t.pos, .int .i64 t.kind, .string ⟨t.s.toArray⟩, .int .i64 t.n], .pointer none]) (by simp [results, Tryz.results127, go_sem, z0, z1, z2, z3, zf0, zf1, zf2, zf3]) rfl ?_
     exact resOk (wq := w5) (g := w.heap.size) (m := k + n) (t := t) (n := n) (p := (k : Int)) (a0 := t.pos) (a1 := t.kind) (a2 := ⟨t.s.toArray⟩) (a3 := t.n) (HX.out.trans HR.out) rfl rfl rfl (by rfl) rfl (HG4.out.trans hg5) hC5 hbw (Nat.le_refl _) _ _ _ _
    | bad y x =>
     have HR := Lib.hid hr
     clear hr
     go_wp2_with (first | (go_at_call 142; refine (zpZ _ _).mono ?_; rintro e w' ⟨rfl, rfl⟩) | (go_at_call 143; refine (zbbZ _ _).mono ?_; rintro e w' ⟨rfl, rfl⟩) | (go_at_call 147; refine (lexText s b k w4 HC4.out hk hs hG4 hb).mono ?_; intro e w5 hres; obtain ⟨g, j, rfl, hg5, hR5, hgl, hC5⟩ := ResIs.bad' HR.out hres; clear hres; have hz5 := (hg5.block _ hzl (by simp; omega)).trans HZ4.out; obtain ⟨z0, z1, z2, z3⟩ := zfZ hz5; obtain ⟨zf0, zf1, zf2, zf3⟩ := zjZ hz5))
     refine bodyPost_ret (v := .tuple #[.agg #[.int .i64 k, .int .i64 0, .string ⟨#[]⟩, .int .i64 0], .pointer (some ⟨g, 0, none⟩)]) (by simp [results, Tryz.results127, go_sem, z0, z1, z2, z3, zf0, zf1, zf2, zf3]) rfl ?_
     exact resBad3 (wq := w5) (g := w.heap.size) (g2 := g) (j := j) (y := y) (x := x) (p := (k : Int)) (HX.out.trans HR.out) (HG4.out.trans hg5) hC5 hbw (Nat.le_refl _) hR5 (by omega) _ _ _ _
   ·have B34 : (((s[k]'hk).toNat : Int) == 34) = false := by simp; omega
    have h128 := zijZ hbeg hL0 hD0 h34
    have HE := Lib.hid (zgqZ _ h128)
    have hu : ((s[k]'hk).toNat : Int) < 256 := by omega
    go_upto_region 9 with (first | (go_at_call 142; refine (zpZ _ _).mono ?_; rintro e w' ⟨rfl, rfl⟩) | (go_at_call 143; refine (zbbZ _ _).mono ?_; rintro e w' ⟨rfl, rfl⟩))
    go_upto_region 10 with fail
    rw [HE.out]
    have hg5 : w.grownBy ((w4.setCell ⟨w.heap.size + 1, 1, none⟩ (.int .i64 6)).setCell ⟨w.heap.size + 1, 2, none⟩ (.string ⟨#[s[k]'hk]⟩)) (some b) := znZ HG4.out ((zhZ _ _ _ _).trans (zhZ _ _ _ _)) (by omega)
    have hC5 : Cu ((w4.setCell ⟨w.heap.size + 1, 1, none⟩ (.int .i64 6)).setCell ⟨w.heap.size + 1, 2, none⟩ (.string ⟨#[s[k]'hk]⟩)) b s k := (HC4.out.far (by omega) _ _).far (by omega) _ _
    have hz5 : ((w4.setCell ⟨w.heap.size + 1, 1, none⟩ (.int .i64 6)).setCell ⟨w.heap.size + 1, 2, none⟩ (.string ⟨#[s[k]'hk]⟩)).heap[w.heap.size]? = _ := (Below.heap_setCell _ ⟨w.heap.size + 1, 2, none⟩ _ _ (by simp)).trans ((Below.heap_setCell _ ⟨w.heap.size + 1, 1, none⟩ _ _ (by simp)).trans HZ4.out)
    have ht5 : ((w4.setCell ⟨w.heap.size + 1, 1, none⟩ (.int .i64 6)).setCell ⟨w.heap.size + 1, 2, none⟩ (.string ⟨#[s[k]'hk]⟩)).heap[w.heap.size + 1]? = some (.cells #[.int .i64 k, .int .i64 6, .string ⟨#[s[k]'hk]⟩, .int .i64 0] 133 (0, 0)) := by
     simp [World.setCell, Array.getElem?_modify, HT4.out]
    obtain ⟨w5, hw5⟩ : ∃ w5, (w4.setCell ⟨w.heap.size + 1, 1, none⟩ (.int .i64 6)).setCell ⟨w.heap.size + 1, 2, none⟩ (.string ⟨#[s[k]'hk]⟩) = w5 := ⟨_, rfl⟩
    rw [hw5] at hg5 hC5 hz5 ht5 ⊢
    clear hw5 t0 t1 t2 t3 tf0 tf1 tf2 tf3
    have c1 := hC5.c1
    have cf1 := hC5.f1
    go_upto_region 11 with fail
    have hg6 : w.grownBy (w5.setCell ⟨b, 1, none⟩ (.int .i64 (k + 1))) (some b) := hg5.trans (zhZ _ _ _ _)
    have hC6 := hC5.set (k + 1) (k + 1) (by omega)
    have hz6 := (Below.heap_setCell w5 ⟨b, 1, none⟩ (.int .i64 (k + 1)) w.heap.size (by simp; omega)).trans hz5
    have ht6 := (Below.heap_setCell w5 ⟨b, 1, none⟩ (.int .i64 (k + 1)) (w.heap.size + 1) (by simp; omega)).trans ht5
    obtain ⟨w6, hw6⟩ : ∃ w6, w5.setCell ⟨b, 1, none⟩ (.int .i64 (k + 1)) = w6 := ⟨_, rfl⟩
    rw [hw6] at hg6 hC6 hz6 ht6 ⊢
    clear hw6 c1 cf1 hg5 hC5 hz5 ht5
    have c0 := hC6.c0
    have c1 := hC6.c1
    have cf1 := hC6.f1
    have HG6 := Lib.hid hg6
    have HC6 := Lib.hid hC6
    have HZ6 := Lib.hid hz6
    have HT6 := Lib.hid ht6
    obtain ⟨t0, t1, t2, t3⟩ := zfZ ht6
    obtain ⟨tf0, tf1, tf2, tf3⟩ := zjZ ht6
    obtain ⟨z0, z1, z2, z3⟩ := zfZ hz6
    obtain ⟨zf0, zf1, zf2, zf3⟩ := zjZ hz6
    clear hg6 hC6 hz6 ht6
    have H34 := Lib.hid h34
    clear h34
    have hend : ∀ (nq : Nat), (((s[k]'hk).toNat : Int) == 61) = false ∨ ¬ k + 1 < s.size ∨ (∃ hk2 : k + 1 < s.size, (((s[k + 1]'hk2).toNat : Int) == 61) = false) →
      ResIs k b s k w (Lx.cut k (s.data.toList.drop k)) (.returned (.tuple #[.agg #[.int .i64 k, .int .i64 6, .string ⟨#[s[k]'hk]⟩, .int .i64 0], .pointer none]))
       (((((w6.drewN nq).setCell ⟨w.heap.size, 0, none⟩ (.int .i64 k)).setCell ⟨w.heap.size, 1, none⟩ (.int .i64 6)).setCell ⟨w.heap.size, 2, none⟩ (.string ⟨#[s[k]'hk]⟩)).setCell ⟨w.heap.size, 3, none⟩ (.int .i64 0)) := by
     intro nq hor
     refine resOk (wq := w6.drewN nq) (g := w.heap.size) (m := k + 1) (t := ⟨k, 6, [s[k]'hk], 0⟩) (n := 1) (p := (k : Int)) (a0 := k) (a1 := 6) (a2 := ⟨#[s[k]'hk]⟩) (a3 := 0)
      (cut_one hk hL0 hD0 H34.out ?_) rfl rfl rfl (by rfl) rfl (HG6.out.trans (ziZ _ _ _)) (HC6.out.drewN _) hbw (Nat.le_refl _) _ _ _ _
     intro h61 hk2 h2
     rcases hor with h | h | ⟨_, h⟩
     ·rw [h61] at h; exact absurd h (by decide)
     ·exact h hk2
     ·rw [h2] at h; exact absurd h (by decide)
    by_cases h61 : (s[k]'hk).toNat = 61
    ·have B61 : (((s[k]'hk).toNat : Int) == 61) = true := by simp; omega
     have H61 := Lib.hid h61
     clear h61
     by_cases hk2 : k + 1 < s.size
     ·have hlt : (k : Int) + 1 < (s.size : Int) := by omega
      have hlt0 : (0 : Int) ≤ (k : Int) + 1 := by omega
      by_cases hn61 : (s[k + 1]'hk2).toNat = 61
      ·have N61 : (((s[k + 1]'hk2).toNat : Int) == 61) = true := by simp; omega
       have HN61 := Lib.hid hn61
       clear hn61
       go_quiet (fail)
       go_wp2
       clear hend
       refine bodyPost_ret (v := .tuple #[.agg #[.int .i64 k, .int .i64 6, .string ⟨#[61, 61]⟩, .int .i64 0], .pointer none]) (by simp [results, Tryz.results127, go_sem, z0, z1, z2, z3, zf0, zf1, zf2, zf3]) rfl ?_
       have hg7 : w.grownBy ((w6.drewN nq).setCell ⟨w.heap.size + 1, 2, none⟩ (.string ⟨#[61, 61]⟩)) (some b) := znZ HG6.out ((ziZ w6 nq (some (w.heap.size + 1))).trans (zhZ _ _ _ _)) (by omega)
       have hg8 : w.grownBy (((w6.drewN nq).setCell ⟨w.heap.size + 1, 2, none⟩ (.string ⟨#[61, 61]⟩)).setCell ⟨b, 1, none⟩ (.int .i64 ((k : Int) + 1 + 1))) (some b) := hg7.trans (zhZ _ _ _ _)
       have hC8 : Cu (((w6.drewN nq).setCell ⟨w.heap.size + 1, 2, none⟩ (.string ⟨#[61, 61]⟩)).setCell ⟨b, 1, none⟩ (.int .i64 ((k : Int) + 1 + 1))) b s (k + 2) := ((HC6.out.drewN nq).far (by omega) _ _).set _ _ (by omega)
       generalize ((w6.drewN nq).setCell ⟨w.heap.size + 1, 2, none⟩ (.string ⟨#[61, 61]⟩)).setCell ⟨b, 1, none⟩ (.int .i64 ((k : Int) + 1 + 1)) = w8 at hg8 hC8 ⊢
       exact resOk (wq := w8) (g := w.heap.size) (m := k + 2) (t := ⟨k, 6, [61, 61], 0⟩) (n := 2) (p := (k : Int)) (a0 := k) (a1 := 6) (a2 := ⟨#[61, 61]⟩) (a3 := 0)
        (zljZ hk hL0 hD0 H61.out hk2 HN61.out) rfl rfl rfl (by rfl) rfl hg8 hC8 hbw (Nat.le_refl _) _ _ _ _
      ·have N61 : (((s[k + 1]'hk2).toNat : Int) == 61) = false := by simp; omega
       clear hn61
       go_quiet (fail)
       have hE := hend nq (.inr (.inr ⟨hk2, N61⟩))
       clear hend
       go_wp2
       refine bodyPost_ret (v := .tuple #[.agg #[.int .i64 k, .int .i64 6, .string ⟨#[s[k]'hk]⟩, .int .i64 0], .pointer none]) (by simp [results, Tryz.results127, go_sem, z0, z1, z2, z3, zf0, zf1, zf2, zf3]) rfl ?_
       exact hE
     ·have hlt : ¬ (k : Int) + 1 < (s.size : Int) := by omega
      go_quiet (fail)
      have hE := hend nq (.inr (.inl hk2))
      clear hend
      go_wp2
      refine bodyPost_ret (v := .tuple #[.agg #[.int .i64 k, .int .i64 6, .string ⟨#[s[k]'hk]⟩, .int .i64 0], .pointer none]) (by simp [results, Tryz.results127, go_sem, z0, z1, z2, z3, zf0, zf1, zf2, zf3]) rfl ?_
      exact hE
    ·have B61 : (((s[k]'hk).toNat : Int) == 61) = false := by simp; omega
     clear h61
     go_quiet (fail)
     have hE := hend nq (.inl B61)
     clear hend
     go_wp2
     refine bodyPost_ret (v := .tuple #[.agg #[.int .i64 k, .int .i64 6, .string ⟨#[s[k]'hk]⟩, .int .i64 0], .pointer none]) (by simp [results, Tryz.results127, go_sem, z0, z1, z2, z3, zf0, zf1, zf2, zf3]) rfl ?_
     exact hE
end Go.Proofs.YtdncljdfmdgdaaaGreatDoor
namespace Go.Proofs.YtdncljdfmdgdaaaGreatDoor
open Go.RowKit
namespace Lx
theorem skip_suffix : ∀ (m : Bool) (l : Bytes), ∃ j, j ≤ l.length ∧ skip m l = l.drop j
 | _, [] => ⟨0, Nat.le_refl _, by simp [skip_end]⟩
 | false, c :: t => by
  unfold skip
  split
  ·obtain ⟨j, hj, e⟩ := skip_suffix false t; exact ⟨j + 1, by simp; omega, by simpa using e⟩
  ·split
   ·obtain ⟨j, hj, e⟩ := skip_suffix true t; exact ⟨j + 1, by simp; omega, by simpa using e⟩
   ·exact ⟨0, Nat.zero_le _, rfl⟩
 | true, c :: t => by
  unfold skip
  split
  ·obtain ⟨j, hj, e⟩ := skip_suffix false t; exact ⟨j + 1, by simp; omega, by simpa using e⟩
  ·obtain ⟨j, hj, e⟩ := skip_suffix true t; exact ⟨j + 1, by simp; omega, by simpa using e⟩
theorem zcbZ (p : Nat) (t : Tok) (n : Nat) : ∀ (m : Nat) (l acc : Bytes) (k : Nat), l.length ≤ m → quoted p l acc k = .ok t n → k < n ∧ n ≤ k + l.length
 | m, [], acc, k, hm, h => by simp [quoted] at h
 | m + 1, c :: t', acc, k, hm, h => by
  have hm' : t'.length ≤ m := by simpa using hm
  by_cases e34 : c = 34
  ·subst e34; simp [quoted] at h; have := h.2; simp; omega
  ·by_cases e92 : c = 92
   ·subst e92
    cases t' with
    | nil => simp [quoted] at h
    | cons d t'' =>
     have hm2 : t''.length ≤ m := by simp at hm'; omega
     have h' : (if d.toNat == 110 then quoted p t'' (acc ++ [10]) (k + 2) else if d.toNat == 34 || d.toNat == 92 then quoted p t'' (acc ++ [d]) (k + 2) else .bad 12 (p + k + 1)) = .ok t n := h
     split at h'
     ·have := zcbZ p t n m t'' _ _ hm2 h'; simp; omega
     ·split at h'
      ·have := zcbZ p t n m t'' _ _ hm2 h'; simp; omega
      ·cases h'
   ·have h' : (if c.toNat < 32 || 126 < c.toNat then Res.bad 12 (p + k) else quoted p t' (acc ++ [c]) (k + 1)) = .ok t n := by
     rw [quoted.eq_def] at h
     split at h
     ·cases ‹_ :: _ = []›
     ·rename_i h1; injection h1 with h1 h2; exact absurd h1 e34
     ·rename_i h1; injection h1 with h1 h2; exact absurd h1 e92
     ·rename_i h1; injection h1 with h1 h2; exact absurd h1 e92
     ·rename_i h1; injection h1 with h1 h2; subst h1; subst h2; exact h
    split at h'
    ·cases h'
    ·have := zcbZ p t n m t' _ _ hm' h'; simp; omega
 | 0, c :: t', acc, k, hm, h => by simp at hm
theorem zdbZ {l : Bytes} (f : UInt8 → Bool) : (l.takeWhile f).length ≤ l.length := (List.takeWhile_sublist f).length_le
theorem cut_len {p : Nat} {l : Bytes} {t : Tok} {n : Nat} (h : cut p l = .ok t n) : 0 < n ∧ n ≤ l.length := by
 cases l with
 | nil => simp [cut] at h
 | cons b l =>
  simp only [cut] at h
  split at h
  ·rename_i hb
   unfold cutName at h
   simp only at h
   split at h
   ·cases h
   ·injection h with h1 h2
    subst h2
    refine ⟨?_, zdbZ _⟩
    rw [List.takeWhile_cons, if_pos (by simp [within, hb])]
    simp
  ·split at h
   ·rename_i hb
    unfold cutNumber at h
    simp only at h
    split at h
    ·cases h
    ·injection h with h1 h2
     subst h2
     refine ⟨?_, zdbZ _⟩
     rw [List.takeWhile_cons, if_pos hb]
     simp
   ·split at h
    ·have := zcbZ p t n _ l [] 1 (Nat.le_refl _) h
     simp; omega
    ·split at h
     ·rename_i h2
      injection h with h1 h2'
      subst h2'
      simp at h2
      cases l with
      | nil => simp at h2
      | cons d l => simp
     ·injection h with h1 h2
      subst h2
      simp
end Lx
section
variable {s : ByteArray} {m i f : Nat}
theorem skip_at (s : ByteArray) (m : Nat) (hm : m ≤ s.size) : m ≤ skipAt s m ∧ skipAt s m ≤ s.size ∧ Lx.skip false (s.data.toList.drop m) = s.data.toList.drop (skipAt s m) := by
 obtain ⟨j, hj, e⟩ := Lx.skip_suffix false (s.data.toList.drop m)
 have hl : (s.data.toList.drop m).length = s.size - m := by rw [List.length_drop, zgZ]
 have h1 : skipAt s m = m + j := by
  unfold skipAt
  rw [e, List.length_drop, hl]
  omega
 rw [h1, e, List.drop_drop]
 exact ⟨by omega, by omega, rfl⟩
theorem zlkZ (hm : m ≤ s.size) : m + ((s.data.toList.drop m).length - (Lx.skip false (s.data.toList.drop m)).length) = skipAt s m := by
 have h := skip_at s m hm
 rw [h.2.2, List.length_drop, List.length_drop, zgZ]
 omega
theorem go_end (hm : m ≤ s.size) (hq : skipAt s m = s.size) : Lx.go (f + 1) m i (s.data.toList.drop m) = ([], none) := by
 have h := skip_at s m hm
 simp only [Lx.go]
 rw [h.2.2, hq, List.drop_eq_nil_of_le (by rw [zgZ]; exact Nat.le_refl _)]
theorem go_at (hm : m ≤ s.size) (hq : skipAt s m < s.size) : Lx.go (f + 1) m i (s.data.toList.drop m) =
  if !Lx.begins (s[skipAt s m]'hq) then ([], some (10, skipAt s m))
   else if i == 4096 then ([], some (3, skipAt s m))
   else match Lx.cut (skipAt s m) (s.data.toList.drop (skipAt s m)) with
    | .bad why x => ([], some (why, x))
    | .ok t n => ((t :: (Lx.go f (skipAt s m + n) (i + 1) (s.data.toList.drop (skipAt s m + n))).1), (Lx.go f (skipAt s m + n) (i + 1) (s.data.toList.drop (skipAt s m + n))).2) := by
 have h := skip_at s m hm
 simp only [Lx.go, zlkZ hm]
 rw [h.2.2]
 have e : ∀ (n : Nat), List.drop n (List.drop (skipAt s m) s.data.toList) = List.drop (skipAt s m + n) s.data.toList := fun n => by rw [List.drop_drop]
 rw [byte_at s _ hq]
 simp only
 rw [← byte_at s _ hq]
 simp only [e]
 rfl
theorem go_byte (hm : m ≤ s.size) (hq : skipAt s m < s.size) (hb : Lx.begins (s[skipAt s m]'hq) = false) : Lx.go (f + 1) m i (s.data.toList.drop m) = ([], some (10, skipAt s m)) := by
 rw [go_at hm hq, hb]; rfl
theorem go_many (hm : m ≤ s.size) (hq : skipAt s m < s.size) (hb : Lx.begins (s[skipAt s m]'hq) = true) (hi : i = 4096) : Lx.go (f + 1) m i (s.data.toList.drop m) = ([], some (3, skipAt s m)) := by
 rw [go_at hm hq, hb, hi]; rfl
theorem go_bad {y x : Nat} (hm : m ≤ s.size) (hq : skipAt s m < s.size) (hb : Lx.begins (s[skipAt s m]'hq) = true) (hi : i ≠ 4096) (h : Lx.cut (skipAt s m) (s.data.toList.drop (skipAt s m)) = .bad y x) :
  Lx.go (f + 1) m i (s.data.toList.drop m) = ([], some (y, x)) := by
 rw [go_at hm hq, hb, h, if_neg (by simp), if_neg (by simpa using hi)]
theorem go_ok {t : Lx.Tok} {n : Nat} (hm : m ≤ s.size) (hq : skipAt s m < s.size) (hb : Lx.begins (s[skipAt s m]'hq) = true) (hi : i ≠ 4096) (h : Lx.cut (skipAt s m) (s.data.toList.drop (skipAt s m)) = .ok t n) :
  Lx.go (f + 1) m i (s.data.toList.drop m) = (t :: (Lx.go f (skipAt s m + n) (i + 1) (s.data.toList.drop (skipAt s m + n))).1, (Lx.go f (skipAt s m + n) (i + 1) (s.data.toList.drop (skipAt s m + n))).2) := by
 rw [go_at hm hq, hb, h, if_neg (by simp), if_neg (by simpa using hi)]
theorem zgsZ {q : Nat} {t : Lx.Tok} {n : Nat} (hq : q < s.size) (h : Lx.cut q (s.data.toList.drop q) = .ok t n) : 0 < n ∧ q + n ≤ s.size := by
 have := Lx.cut_len h
 rw [List.length_drop, zgZ] at this
 omega
end
end Go.Proofs.YtdncljdfmdgdaaaGreatDoor
namespace Go.Proofs.YtdncljdfmdgdaaaGreatDoor
open Go.RowKit
set_option linter.unusedSimpArgs false
set_option linter.unusedVariables false
theorem zbiZ {w w1 w2 : World} {b : Nat} (h : w.grownBy w1 none) (h' : w1.grownBy w2 (some b)) (hb : w.heap.size ≤ b) : w.grownBy w2 none :=
 ⟨h'.os.trans h.os, h'.tape.trans h.tape, h'.output.trans h.output, Nat.le_trans h.size h'.size, fun j hj _ => (h'.block j (by have := h.size; omega) (fun e => by injection e with e; omega)).trans (h.block j hj (fun e => nomatch e))⟩
theorem IsRef.alloc {w : World} {g : Nat} {x y : Int} (h : IsRef w g x y) (o : Obj) : IsRef (w.alloc o) g x y := heap_alloc h o
end Go.Proofs.YtdncljdfmdgdaaaGreatDoor
namespace Go.Proofs.YtdncljdfmdgdaaaGreatDoor
open Go.RowKit Go.Shelf
set_option linter.unusedSimpArgs false
set_option linter.unusedVariables false
namespace Lx
def esc (c : UInt8) : Bytes := if c.toNat == 10 then [92, 110] else if c.toNat == 34 || c.toNat == 92 then [92, c] else [c]
theorem quoteIn_cons (c : UInt8) (t : Bytes) : quoteIn (c :: t) = esc c ++ quoteIn t := rfl
theorem quoteIn_append : ∀ (l k : Bytes), quoteIn (l ++ k) = quoteIn l ++ quoteIn k
 | [], k => rfl
 | c :: t, k => by rw [List.cons_append, quoteIn_cons, quoteIn_cons, quoteIn_append t k, List.append_assoc]
theorem esc_len (c : UInt8) : (esc c).length ≤ 2 := by
 unfold esc
 split
 ·simp
 ·split <;> simp
theorem quoteIn_len : ∀ (l : Bytes), (quoteIn l).length ≤ 2 * l.length
 | [] => by simp [quoteIn]
 | c :: t => by
  rw [quoteIn_cons, List.length_append]
  have := esc_len c
  have := quoteIn_len t
  simp
  omega
end Lx
theorem zehZ (s : ByteArray) (m : Nat) (h : m < s.size) : s.data.toList.take (m + 1) = s.data.toList.take m ++ [s[m]] := by
 have := zbfZ s 0 m (Nat.zero_le _) h
 simpa using this
set_option maxHeartbeats 4000000 in
set_option maxRecDepth 100000 in
theorem zgtZ (s : ByteArray) (w : World) (hs : s.size ≤ 70368744177600) :
  Calls Tryz.prog 114 #[.string s] w fun e w' => e = .returned (.string ⟨(Lx.quote s.data.toList).toArray⟩) ∧ Below w.heap.size w w' := by
 go_enter Tryz.func114, Tryz.ntmps114
 have h0 : Bld w.heap.size w.heap.size [] (w.alloc (.cells #[.pointer none, .slice none 0 0] 100)) := Lib.fresh_isBuilder _ _ _
 have hb0 : Below w.heap.size w (w.alloc (.cells #[.pointer none, .slice none 0 0] 100)) := (Below.refl _ w).alloc (Nat.le_refl _) _
 go_wp2_with (go_at_call 93; refine (bldByte w.heap.size w.heap.size [] 34 _ h0 (by decide) hb0.size).mono ?_; rintro e w1 ⟨rfl, h1, hb1'⟩; have hb1 := hb0.trans hb1'; clear hb1')
 have H1 := Lib.hid h1
 have HB1 := Lib.hid hb1
 clear h1 hb1 h0 hb0
 go_loopg [8] (s.size) (fun n v wr => ∃ m : Nat, n = s.size - m ∧ v = .int .i64 (m : Int) ∧ m ≤ s.size ∧ Bld w.heap.size w.heap.size (34 :: Lx.quoteIn (s.data.toList.take m)) wr ∧ Below w.heap.size w wr)
 case atStart => exact ⟨0, rfl, rfl, Nat.zero_le _, H1.out, HB1.out⟩
 case round =>
  obtain ⟨m, hn, rfl, hm, hB, hb⟩ := hrel
  have HN := Lib.hid hn
  clear hn H1 HB1
  by_cases hlt : m < s.size
  ·have hi : (m : Int) < (s.size : Int) := by omega
   have hi0 : (0 : Int) ≤ (m : Int) := by omega
   have hmi : (m : Int) ≤ 70368744177600 := by omega
   obtain ⟨c, hc⟩ : ∃ c, c = s[m]'hlt := ⟨_, rfl⟩
   obtain ⟨l, hl⟩ : ∃ l, 34 :: Lx.quoteIn (s.data.toList.take m) = l := ⟨_, rfl⟩
   have hll : l.length ≤ 2 * s.size + 1 := by
    rw [← hl]
    have := Lx.quoteIn_len (s.data.toList.take m)
    simp only [List.length_cons, List.length_take, zgZ] at this ⊢
    omega
   have HT := Lib.hid (zehZ s m hlt)
   have HL := Lib.hid hl
   have HC := Lib.hid hc
   rw [hl] at hB
   clear hl hc
   have hsz := hb.size
   have hfin : ∀ w', Bld w.heap.size w.heap.size (l ++ Lx.esc (s[m]'hlt)) w' → Bld w.heap.size w.heap.size (34 :: Lx.quoteIn (s.data.toList.take (m + 1))) w' := by
    intro w' h
    rw [HT.out, Lx.quoteIn_append, ← List.cons_append, HL.out]
    have e : Lx.quoteIn [s[m]'hlt] = Lx.esc (s[m]'hlt) := by rw [Lx.quoteIn_cons]; simp [Lx.quoteIn]
    rw [e]
    exact h
   by_cases h10 : (s[m]'hlt).toNat = 10
   ·have B10 : (((s[m]'hlt).toNat : Int) == 10) = true := by simp; omega
    have he : Lx.esc (s[m]'hlt) = [92, 110] := by simp [Lx.esc, h10]
    rw [he] at hfin
    clear h10 he
    go_wp2_with (go_at_call 94; refine (bldStr w.heap.size w.heap.size l ⟨#[92, 110]⟩ _ hB (by show l.length + 2 ≤ _; omega) hsz).mono ?_; rintro e w2 ⟨rfl, h2, hb2'⟩; have hb2 := hb.trans hb2'; clear hb2')
    go_roundg (s.size - (m + 1))
    case measure => have := HN.out; omega
    case rel => exact ⟨m + 1, rfl, by simp, hlt, hfin _ h2, hb2⟩
   ·have B10 : (((s[m]'hlt).toNat : Int) == 10) = false := by simp; omega
    by_cases hq : (s[m]'hlt).toNat = 34 ∨ (s[m]'hlt).toNat = 92
    ·have he : Lx.esc (s[m]'hlt) = [92, s[m]'hlt] := by simp [Lx.esc, h10, hq]
     rw [he] at hfin
     have hstep : ∀ (w2 : World), Bld w.heap.size w.heap.size (l ++ [92]) w2 → Below w.heap.size w w2 → Calls Tryz.prog 93 #[.pointer (some ⟨w.heap.size, 0, none⟩), .int .u8 ((s[m]'hlt).toNat : Int)] w2 fun e w' => e = .returned .nilIface ∧ Bld w.heap.size w.heap.size (l ++ [92, s[m]'hlt]) w' ∧ Below w.heap.size w w' := fun w2 h2 hb2 =>
      (bldByte w.heap.size w.heap.size (l ++ [92]) (s[m]'hlt) w2 h2 (by simp; omega) hb2.size).mono fun e w' h => ⟨h.1, by simpa using h.2.1, hb2.trans h.2.2⟩
     have hstep1 : Calls Tryz.prog 93 #[.pointer (some ⟨w.heap.size, 0, none⟩), .int .u8 92] wr fun e w' => e = .returned .nilIface ∧ Bld w.heap.size w.heap.size (l ++ [92]) w' ∧ Below w.heap.size w w' :=
      (bldByte w.heap.size w.heap.size l 92 wr hB (by omega) hsz).mono fun e w' h => ⟨h.1, h.2.1, hb.trans h.2.2⟩
     by_cases h34 : (s[m]'hlt).toNat = 34
     ·have B34 : (((s[m]'hlt).toNat : Int) == 34) = true := by simp; omega
      clear h10 hq h34 he
      go_wp2_with (first | (go_at_call 93; refine hstep1.mono ?_; clear hstep1; rintro e w2 ⟨rfl, h2, hb2⟩) | (go_at_call 93; refine (hstep w2 h2 hb2).mono ?_; clear hstep; rintro e w3 ⟨rfl, h3, hb3⟩))
      go_roundg (s.size - (m + 1))
      case measure => have := HN.out; omega
      case rel => exact ⟨m + 1, rfl, by simp, hlt, hfin _ h3, hb3⟩
     ·have B34 : (((s[m]'hlt).toNat : Int) == 34) = false := by simp; omega
      have B92 : (((s[m]'hlt).toNat : Int) == 92) = true := by simp; omega
      clear h10 hq h34 he
      go_wp2_with (first | (go_at_call 93; refine hstep1.mono ?_; clear hstep1; rintro e w2 ⟨rfl, h2, hb2⟩) | (go_at_call 93; refine (hstep w2 h2 hb2).mono ?_; clear hstep; rintro e w3 ⟨rfl, h3, hb3⟩))
      go_roundg (s.size - (m + 1))
      case measure => have := HN.out; omega
      case rel => exact ⟨m + 1, rfl, by simp, hlt, hfin _ h3, hb3⟩
    ·have B34 : (((s[m]'hlt).toNat : Int) == 34) = false := by simp; omega
     have B92 : (((s[m]'hlt).toNat : Int) == 92) = false := by simp; omega
     have he : Lx.esc (s[m]'hlt) = [s[m]'hlt] := by simp [Lx.esc, h10, hq]
     rw [he] at hfin
     have hstep : Calls Tryz.prog 93 #[.pointer (some ⟨w.heap.size, 0, none⟩), .int .u8 ((s[m]'hlt).toNat : Int)] wr fun e w' => e = .returned .nilIface ∧ Bld w.heap.size w.heap.size (l ++ [s[m]'hlt]) w' ∧ Below w.heap.size w w' :=
      (bldByte w.heap.size w.heap.size l (s[m]'hlt) wr hB (by omega) hsz).mono fun e w' h => ⟨h.1, h.2.1, hb.trans h.2.2⟩
     clear h10 hq he
     go_wp2_with (go_at_call 93; refine hstep.mono ?_; clear hstep; rintro e w3 ⟨rfl, h3, hb3⟩)
     go_roundg (s.size - (m + 1))
     case measure => have := HN.out; omega
     case rel => exact ⟨m + 1, rfl, by simp, hlt, hfin _ h3, hb3⟩
  ·have hme : m = s.size := by omega
   have hi : ¬ (m : Int) < (s.size : Int) := by omega
   have hq : 34 :: Lx.quoteIn (s.data.toList.take m) ++ [34] = Lx.quote s.data.toList := by
    rw [hme, List.take_of_length_le (by rw [zgZ]; exact Nat.le_refl _)]; rfl
   have hl2 := Lx.quoteIn_len (s.data.toList.take m)
   rw [List.length_take, zgZ] at hl2
   have hstep : Calls Tryz.prog 93 #[.pointer (some ⟨w.heap.size, 0, none⟩), .int .u8 34] wr fun e w' => e = .returned .nilIface ∧ Bld w.heap.size w.heap.size (Lx.quote s.data.toList) w' ∧ Below w.heap.size w w' :=
    (bldByte w.heap.size w.heap.size _ 34 wr hB (by simp; omega) hb.size).mono fun e w' h => ⟨h.1, by rw [← hq]; exact h.2.1, hb.trans h.2.2⟩
   clear hq hme hB
   go_wp2_with (first | (go_at_call 93; refine hstep.mono ?_; clear hstep; rintro e w3 ⟨rfl, h3, hb3⟩) | (go_at_call 95; refine (Tryz.Builder_String_any w.heap.size w.heap.size _ _ h3 hb3.size).mono ?_; rintro e w4 ⟨rfl, hb4⟩))
   go_ret
   exact ⟨rfl, hb3.trans hb4⟩
end Go.Proofs.YtdncljdfmdgdaaaGreatDoor
namespace Go.Proofs.YtdncljdfmdgdaaaGreatDoor
open Go.RowKit Go.Shelf
set_option linter.unusedSimpArgs false
set_option linter.unusedVariables false
def OfT (T : Nat) (o : Obj) : Prop := ∃ cs fr, o = .cells cs T fr
structure KeepT (T n₀ : Nat) (W W' : World) : Prop where
 size : W.heap.size ≤ W'.heap.size
 low : ∀ k, k < n₀ → k < W.heap.size → W'.heap[k]? = W.heap[k]?
 own : ∀ (k : Nat) (o : Obj), W.heap[k]? = some o → OfT T o → W'.heap[k]? = some o
def AbT {β : Type} (T B : Nat) (J : β → World → Prop) : Prop :=
 ∀ s W W' row, J s W → W.grownBy W' row → (∀ r, row = some r → B ≤ r ∧ ∃ o : Obj, W.heap[r]? = some o ∧ (o.isCells = false ∨ OfT T o)) → J s W'
theorem KeepT.refl (T n₀ : Nat) (W : World) : KeepT T n₀ W W := ⟨Nat.le_refl _, fun _ _ _ => rfl, fun _ _ h _ => h⟩
theorem KeepT.trans {T n₀ : Nat} {A B C : World} (h : KeepT T n₀ A B) (k : KeepT T n₀ B C) : KeepT T n₀ A C :=
 ⟨Nat.le_trans h.size k.size, fun i hi hA => (k.low i hi (Nat.lt_of_lt_of_le hA h.size)).trans (h.low i hi hA), fun i o hi ho => k.own i o (h.own i o hi ho) ho⟩
theorem KeepT.alloc (T n₀ : Nat) (W : World) (o : Obj) : KeepT T n₀ W (W.alloc o) :=
 ⟨by simp, fun k _ hk => Below.heap_alloc W o k hk, fun k o' hk _ => (Below.heap_alloc W o k (Array.getElem?_eq_some_iff.1 hk).1).trans hk⟩
theorem AbT.put {β : Type} {T B : Nat} {J : β → World → Prop} (h : AbT T B J) {s : β} {W : World} {l : Nat} {o : Obj} (o' : Obj) (hs : J s W) (hB : B ≤ l) (hl : W.heap[l]? = some o) (ho : o.isCells = false) : J s (W.putObj l o') :=
 h s W _ (some l) hs (grownBy_putObj' W l o') (fun r e => by cases e; exact ⟨hB, o, hl, .inl ho⟩)
theorem AbT.new {β : Type} {T B : Nat} {J : β → World → Prop} (h : AbT T B J) {s : β} {W : World} (o : Obj) (hs : J s W) : J s (W.alloc o) :=
 h s W _ none hs (World.grownBy_alloc W o none) (fun r e => by cases e)
section
variable {F : Fence} {n : Nat} {P : Program}
end
end Go.Proofs.YtdncljdfmdgdaaaGreatDoor
