/-
  The walk of (*cutter).text.
-/
/-
 The walk of (*cutter).text.
-/
import Derived.Test.YtdncljdfmdgdaaaGreatDoorM5
import Derived.Test.YtdncljdfmdgdaaaGreatDoorM3
import Derived.StillTailTactics
namespace Go.Proofs.YtdncljdfmdgdaaaGreatDoor
open Go.RowKit
set_option linter.unusedSimpArgs false
set_option linter.unusedVariables false
structure TW (w : World) (b : Nat) (s : ByteArray) (k : Nat) (W : World) (m : Nat) : Prop where
 g : w.grownBy W (some b)
 c : Cu W b s m
 t : W.heap[w.heap.size]? = some (.cells #[.int .i64 k, .int .i64 0, .string ⟨#[]⟩, .int .i64 0] 133 (0, 0))
 z : W.heap[w.heap.size + 1]? = some (.cells #[.int .i64 0, .int .i64 0, .string ⟨#[]⟩, .int .i64 0] 133 (0, 0))
 b : b < w.heap.size
section
variable {w W W' : World} {b : Nat} {s : ByteArray} {k m : Nat}
theorem TW.start (hc : Cu w b s k) (j : Int) (hj : j = ((k + 1 : Nat) : Int)) : TW w b s k (((w.setCell ⟨b, 1, none⟩ (.int .i64 j)).alloc (.cells #[.int .i64 k, .int .i64 0, .string ⟨#[]⟩, .int .i64 0] 133)).alloc (.cells #[.int .i64 0, .int .i64 0, .string ⟨#[]⟩, .int .i64 0] 133)) (k + 1) := by
 have hz : (w.setCell ⟨b, 1, none⟩ (.int .i64 j)).heap.size = w.heap.size := by simp [World.setCell]
 refine ⟨((zhZ _ _ _ _).trans (World.grownBy_alloc _ _ _)).trans (World.grownBy_alloc _ _ _), ((hc.set j _ hj).alloc _).alloc _, ?_, ?_, hc.lt⟩
 ·have := heap_alloc_new (w.setCell ⟨b, 1, none⟩ (.int .i64 j)) (.cells #[.int .i64 k, .int .i64 0, .string ⟨#[]⟩, .int .i64 0] 133)
  rw [hz] at this
  exact heap_alloc this _
 ·have := heap_alloc_new ((w.setCell ⟨b, 1, none⟩ (.int .i64 j)).alloc (.cells #[.int .i64 k, .int .i64 0, .string ⟨#[]⟩, .int .i64 0] 133)) (.cells #[.int .i64 0, .int .i64 0, .string ⟨#[]⟩, .int .i64 0] 133)
  rwa [World.size_alloc, hz] at this
theorem TW.set (h : TW w b s k W m) (j : Int) (p : Nat) (hj : j = (p : Int)) : TW w b s k (W.setCell ⟨b, 1, none⟩ (.int .i64 j)) p :=
 ⟨h.g.trans (zhZ _ _ _ _), h.c.set j p hj, (Below.heap_setCell _ _ _ _ (fun e => by have := h.b; simp at e; omega)).trans h.t, (Below.heap_setCell _ _ _ _ (fun e => by have := h.b; simp at e; omega)).trans h.z, h.b⟩
theorem TW.drewN (h : TW w b s k W m) (n : Nat) : TW w b s k (W.drewN n) m := ⟨h.g.trans (ziZ _ _ _), h.c, h.t, h.z, h.b⟩
theorem TW.drew (h : TW w b s k W m) : TW w b s k W.drew m := h.drewN 1
theorem TW.row (h : TW w b s k W m) {row : Option Nat} (hg : W.grownBy W' row) (hr : ∀ g, row = some g → w.heap.size + 2 ≤ g) : TW w b s k W' m :=
  ⟨by
    rcases row with _ | g
    · exact ⟨hg.os.trans h.g.os, hg.tape.trans h.g.tape, hg.output.trans h.g.output, Nat.le_trans h.g.size hg.size, fun j hj hne => (hg.block j (Nat.lt_of_lt_of_le hj h.g.size) (fun e => nomatch e)).trans (h.g.block j hj hne)⟩
    · exact znZ h.g hg (by have := hr g rfl; omega),
   h.c.kept hg (fun e => by have := hr b e.symm; have := h.b; omega),
   (hg.block _ (zaZ h.t) (fun e => by have := hr _ e.symm; omega)).trans h.t,
   (hg.block _ (zaZ h.z) (fun e => by have := hr _ e.symm; omega)).trans h.z, h.b⟩
theorem TW.facts (h : TW w b s k W m) :
  W.cell? ⟨b, 0, none⟩ = some (.string s) ∧ W.cell? ⟨b, 1, none⟩ = some (.int .i64 m) ∧ W.frozen? ⟨b, 1, none⟩ = false ∧
  (W.cell? ⟨w.heap.size, 0, none⟩ = some (.int .i64 k) ∧ W.cell? ⟨w.heap.size, 1, none⟩ = some (.int .i64 0) ∧ W.cell? ⟨w.heap.size, 2, none⟩ = some (.string ⟨#[]⟩) ∧ W.cell? ⟨w.heap.size, 3, none⟩ = some (.int .i64 0)) ∧
  (W.frozen? ⟨w.heap.size, 0, none⟩ = false ∧ W.frozen? ⟨w.heap.size, 1, none⟩ = false ∧ W.frozen? ⟨w.heap.size, 2, none⟩ = false ∧ W.frozen? ⟨w.heap.size, 3, none⟩ = false) ∧
  (W.cell? ⟨w.heap.size + 1, 0, none⟩ = some (.int .i64 0) ∧ W.cell? ⟨w.heap.size + 1, 1, none⟩ = some (.int .i64 0) ∧ W.cell? ⟨w.heap.size + 1, 2, none⟩ = some (.string ⟨#[]⟩) ∧ W.cell? ⟨w.heap.size + 1, 3, none⟩ = some (.int .i64 0)) ∧
  (W.frozen? ⟨w.heap.size + 1, 0, none⟩ = false ∧ W.frozen? ⟨w.heap.size + 1, 1, none⟩ = false ∧ W.frozen? ⟨w.heap.size + 1, 2, none⟩ = false ∧ W.frozen? ⟨w.heap.size + 1, 3, none⟩ = false) ∧
  w.heap.size < W.heap.size ∧ w.heap.size + 1 < W.heap.size ∧ b < W.heap.size :=
 ⟨h.c.c0, h.c.c1, h.c.f1, zfZ h.t, zjZ h.t, zfZ h.z, zjZ h.z, zaZ h.t, zaZ h.z, h.c.lt⟩
end
theorem resOkN2 {w wq : World} {b k m g : Nat} {s : ByteArray} {p a0 a1 a3 : Int} {a2 : ByteArray} {r : Lx.Res} {t : Lx.Tok} {n : Nat} (hr : r = .ok t n) (hm : m = k + n) (h0 : a0 = t.pos) (h1 : a1 = t.kind) (h2 : a2.data.toList = t.s) (h3 : a3 = t.n)
  (hg : w.grownBy wq (some b)) (hC : Cu wq b s m) (hbg : b < g) (hwg : w.heap.size ≤ g) (d1 d2 c0 c1 c2 c3 : Value) :
  ResIs p b s k w r (.returned (.tuple #[.agg #[.int .i64 a0, .int .i64 a1, .string a2, .int .i64 a3], .pointer none]))
   ((((((wq.setCell ⟨g, 1, none⟩ d1).setCell ⟨g, 2, none⟩ d2).setCell ⟨g + 1, 0, none⟩ c0).setCell ⟨g + 1, 1, none⟩ c1).setCell ⟨g + 1, 2, none⟩ c2).setCell ⟨g + 1, 3, none⟩ c3).drew := by
 have hg2 : w.grownBy ((wq.setCell ⟨g, 1, none⟩ d1).setCell ⟨g, 2, none⟩ d2) (some b) := znZ hg ((zhZ _ _ _ _).trans (zhZ _ _ _ _)) hwg
 have hC2 : Cu ((wq.setCell ⟨g, 1, none⟩ d1).setCell ⟨g, 2, none⟩ d2) b s m := (hC.far (by omega) _ _).far (by omega) _ _
 generalize (wq.setCell ⟨g, 1, none⟩ d1).setCell ⟨g, 2, none⟩ d2 = wz at hg2 hC2 ⊢
 have h : ResIs p b s k w r _ _ := resOk hr hm h0 h1 h2 h3 hg2 hC2 (show b < g + 1 by omega) (show w.heap.size ≤ g + 1 by omega) c0 c1 c2 c3
 subst hr
 exact ⟨h.1.trans (ziZ _ 1 _), h.2.1, h.2.2⟩
theorem zdkZ {p k : Nat} {c : UInt8} {t l : List UInt8} (h34 : ¬ c.toNat = 34) (h92 : ¬ c.toNat = 92) (hb : ¬ (c.toNat < 32 ∨ 126 < c.toNat)) : Lx.quoted p (c :: t) l k = Lx.quoted p t (l ++ [c]) (k + 1) := by
 have e34 : c ≠ 34 := fun e => h34 (by rw [e]; rfl)
 have e92 : c ≠ 92 := fun e => h92 (by rw [e]; rfl)
 rw [Lx.quoted.eq_def]
 split
 ·cases ‹_ :: _ = []›
 ·rename_i h; injection h with h1 h2; exact absurd h1 e34
 ·rename_i h; injection h with h1 h2; exact absurd h1 e92
 ·rename_i h; injection h with h1 h2; exact absurd h1 e92
 ·rename_i h; injection h with h1 h2; subst h1; subst h2; rw [if_neg (by simpa using hb)]
theorem zewZ {p k : Nat} {c : UInt8} {t l : List UInt8} (h34 : c.toNat = 34) : Lx.quoted p (c :: t) l k = .ok ⟨p, 5, l, 0⟩ (k + 1) := by
 have e : c = 34 := (u8_eq _ 34 (by decide)).1 h34
 subst e
 rfl
theorem zexZ {p k : Nat} {c : UInt8} {l : List UInt8} (h92 : c.toNat = 92) : Lx.quoted p [c] l k = .bad 12 (p + k + 1) := by
 have e : c = 92 := (u8_eq _ 92 (by decide)).1 h92
 subst e
 rfl
theorem zvZ {p k : Nat} {c d : UInt8} {t l : List UInt8} (h92 : c.toNat = 92) : Lx.quoted p (c :: d :: t) l k =
  if d.toNat == 110 then Lx.quoted p t (l ++ [10]) (k + 2) else if d.toNat == 34 || d.toNat == 92 then Lx.quoted p t (l ++ [d]) (k + 2) else .bad 12 (p + k + 1) := by
 have e : c = 92 := (u8_eq _ 92 (by decide)).1 h92
 subst e
 rfl
theorem zcrZ {p k : Nat} {c : UInt8} {t l : List UInt8} (h34 : ¬ c.toNat = 34) (h92 : ¬ c.toNat = 92) (hb : c.toNat < 32 ∨ 126 < c.toNat) : Lx.quoted p (c :: t) l k = .bad 12 (p + k) := by
 have e34 : c ≠ 34 := fun e => h34 (by rw [e]; rfl)
 have e92 : c ≠ 92 := fun e => h92 (by rw [e]; rfl)
 rw [Lx.quoted.eq_def]
 split
 ·cases ‹_ :: _ = []›
 ·rename_i h; injection h with h1 h2; exact absurd h1 e34
 ·rename_i h; injection h with h1 h2; exact absurd h1 e92
 ·rename_i h; injection h with h1 h2; exact absurd h1 e92
 ·rename_i h; injection h with h1 h2; subst h1; rw [if_pos (by simpa using hb)]
set_option maxRecDepth 100000 in
set_option maxHeartbeats 8000000 in
theorem lexText (s : ByteArray) (b k : Nat) (w : World) (hc : Cu w b s k) (hk : k < s.size) (hs : s.size ≤ 140737488351232) (hG : GS w) (hb : NG ≤ b) :
  Calls Tryz.prog 147 #[.pointer (some ⟨b, 0, none⟩), .agg #[.int .i64 k, .int .i64 0, .string ⟨#[]⟩, .int .i64 0]] w
   (ResIs k b s k w (Lx.quoted k (s.data.toList.drop (k + 1)) [] 1)) := by
 have HC0 := Lib.hid hc
 have hbw := hc.lt
 have hCb := (hc.alloc (.cells #[.int .i64 k, .int .i64 0, .string ⟨#[]⟩, .int .i64 0] 133)).alloc (.cells #[.int .i64 0, .int .i64 0, .string ⟨#[]⟩, .int .i64 0] 133)
 have hc1b := hCb.c1
 have hf1b := hCb.f1
 clear hc hCb
 have k1 : (k : Int) ≤ 140737488351232 := by omega
 go_enter Tryz.func147, Tryz.ntmps147
 go_wp2
 clear hc1b hf1b
 have h2 := TW.start HC0.out ((k : Int) + 1) (by omega)
 obtain ⟨w2, hw2⟩ : ∃ w2, (((w.setCell ⟨b, 1, none⟩ (.int .i64 ((k : Int) + 1))).alloc (.cells #[.int .i64 k, .int .i64 0, .string ⟨#[]⟩, .int .i64 0] 133)).alloc (.cells #[.int .i64 0, .int .i64 0, .string ⟨#[]⟩, .int .i64 0] 133)) = w2 := ⟨_, rfl⟩
 rw [hw2] at h2 ⊢
 clear hw2
 have H2 := Lib.hid h2
 clear h2
 go_loopg [6] (s.size - (k + 1)) (fun n v wr => ∃ (m : Nat) (l : List UInt8), n = s.size - m ∧ k + 1 ≤ m ∧ m ≤ s.size ∧ TW w b s k wr m ∧ OwnB wr (w.heap.size + 2) v l ∧ l.length ≤ m ∧
  Lx.quoted k (s.data.toList.drop m) l (m - k) = Lx.quoted k (s.data.toList.drop (k + 1)) [] 1)
 case atStart => exact ⟨k + 1, [], rfl, Nat.le_refl _, by omega, H2.out, OwnB.nil _ _, by simp, by rw [show k + 1 - k = 1 from by omega]⟩
 case round =>
  obtain ⟨m, l, hn, hkm, hm, hW, hO, hl, he⟩ := hrel
  obtain ⟨c0, c1, cf1, ⟨t0, t1, t2, t3⟩, ⟨e0, e1, e2, e3⟩, ⟨z0, z1, z2, z3⟩, ⟨f0, f1, f2, f3⟩, l0, l1, lb⟩ := hW.facts
  have HW := Lib.hid hW
  have HO := Lib.hid hO
  have HE := Lib.hid he
  have HN := Lib.hid hn
  obtain ⟨A0, cap0, hv⟩ := hO.slice
  clear he hn hW hO
  subst hv
  have m1 : (m : Int) ≤ 140737488351232 := by omega
  by_cases hlt : m < s.size
  ·have hi : (m : Int) < (s.size : Int) := by omega
   have hi0 : (0 : Int) ≤ (m : Int) := by omega
   have HD := Lib.hid (byte_at s m hlt)
   go_wp2
   go_quiet (fail)
   have hWq := HW.out.drewN nq
   have hOq := HO.out.drewN nq
   obtain ⟨w3, hw3⟩ : ∃ w3, wr.drewN nq = w3 := ⟨_, rfl⟩
   rw [hw3] at hWq hOq ⊢
   clear hw3
   clear c0 c1 cf1 t0 t1 t2 t3 e0 e1 e2 e3 z0 z1 z2 z3 f0 f1 f2 f3 l0 l1 lb
   obtain ⟨c0, c1, cf1, ⟨t0, t1, t2, t3⟩, ⟨e0, e1, e2, e3⟩, ⟨z0, z1, z2, z3⟩, ⟨f0, f1, f2, f3⟩, l0, l1, lb⟩ := hWq.facts
   have HWq := Lib.hid hWq
   have HOq := Lib.hid hOq
   clear hWq hOq
   go_wp2
   go_quiet (fail)
   have hWr := HWq.out.drewN nq
   have hOr := HOq.out.drewN nq
   obtain ⟨w4, hw4⟩ : ∃ w4, w3.drewN nq = w4 := ⟨_, rfl⟩
   rw [hw4] at hWr hOr ⊢
   clear hw4
   clear c0 c1 cf1 t0 t1 t2 t3 e0 e1 e2 e3 z0 z1 z2 z3 f0 f1 f2 f3 l0 l1 lb
   obtain ⟨c0, c1, cf1, ⟨t0, t1, t2, t3⟩, ⟨e0, e1, e2, e3⟩, ⟨z0, z1, z2, z3⟩, ⟨f0, f1, f2, f3⟩, l0, l1, lb⟩ := hWr.facts
   have HWr := Lib.hid hWr
   have HOr := Lib.hid hOr
   clear hWr hOr
   by_cases h34 : (s[m]'hlt).toNat = 34
   ·have B34 : (((s[m]'hlt).toNat : Int) == 34) = true := by simp; omega
    have H34 := Lib.hid h34
    clear h34
    have HQ : Hid (Lx.quoted k (s.data.toList.drop (k + 1)) [] 1 = .ok ⟨k, 5, l, 0⟩ (m + 1 - k)) := HE.out.symm.trans (by
     rw [HD.out, zewZ H34.out, show m - k + 1 = m + 1 - k from by omega])
    go_upto_region 9 with fail
    have hW6 := HWr.out.set ((m : Int) + 1) (m + 1) (by omega)
    have hO6 := HOr.out.set (b := b) (by omega) 1 (.int .i64 ((m : Int) + 1))
    obtain ⟨w6, hw6⟩ : ∃ w6, w4.setCell ⟨b, 1, none⟩ (.int .i64 ((m : Int) + 1)) = w6 := ⟨_, rfl⟩
    rw [hw6] at hW6 hO6 ⊢
    clear hw6
    clear c0 c1 cf1 t0 t1 t2 t3 e0 e1 e2 e3 z0 z1 z2 z3 f0 f1 f2 f3 l0 l1 lb
    obtain ⟨c0, c1, cf1, ⟨t0, t1, t2, t3⟩, ⟨e0, e1, e2, e3⟩, ⟨z0, z1, z2, z3⟩, ⟨f0, f1, f2, f3⟩, l0, l1, lb⟩ := hW6.facts
    have hs1 : (convert 98 9 (.slice A0 l.length cap0)).run Tryz.prog w6.drew = .ok (.string ⟨l.toArray⟩) w6.drew := strByte (hO6.drewN 1)
    have hs2 : (convert 98 9 (.slice A0 l.length cap0)).run Tryz.prog (w6.setCell ⟨w.heap.size, 1, none⟩ (.int .i64 5)).drew = .ok (.string ⟨l.toArray⟩) (w6.setCell ⟨w.heap.size, 1, none⟩ (.int .i64 5)).drew := strByte ((hO6.set (b := w.heap.size) (by omega) 1 (.int .i64 5)).drewN 1)
    have HW6 := Lib.hid hW6
    have HO6 := Lib.hid hO6
    clear hW6 hO6
    go_region
    all_goals
     go_wp2
     refine bodyPost_ret (v := .tuple #[.agg #[.int .i64 k, .int .i64 5, .string ⟨l.toArray⟩, .int .i64 0], .pointer none]) (by simp [results, Tryz.results147, go_sem, z0, z1, z2, z3, f0, f1, f2, f3]) rfl ?_
     refine resOkN2 HQ.out (by omega) rfl rfl rfl rfl HW6.out.g HW6.out.c (by omega) (by omega) _ _ _ _ _ _
   ·have B34 : (((s[m]'hlt).toNat : Int) == 34) = false := by simp; omega
    have H34 := Lib.hid h34
    clear h34
    by_cases h92 : (s[m]'hlt).toNat = 92
    ·have B92 : (((s[m]'hlt).toNat : Int) == 92) = true := by simp; omega
     have H92 := Lib.hid h92
     clear h92
     go_upto_region 13 with fail
     have hW5 := HWr.out.set ((m : Int) + 1) (m + 1) (by omega)
     have hO5 := HOr.out.set (b := b) (by omega) 1 (.int .i64 ((m : Int) + 1))
     obtain ⟨w5, hw5⟩ : ∃ w5, w4.setCell ⟨b, 1, none⟩ (.int .i64 ((m : Int) + 1)) = w5 := ⟨_, rfl⟩
     rw [hw5] at hW5 hO5 ⊢
     clear hw5
     clear c0 c1 cf1 t0 t1 t2 t3 e0 e1 e2 e3 z0 z1 z2 z3 f0 f1 f2 f3 l0 l1 lb
     obtain ⟨c0, c1, cf1, ⟨t0, t1, t2, t3⟩, ⟨e0, e1, e2, e3⟩, ⟨z0, z1, z2, z3⟩, ⟨f0, f1, f2, f3⟩, l0, l1, lb⟩ := hW5.facts
     go_quiet (fail)
     have hW6 := hW5.drewN nq
     have hO6 := hO5.drewN nq
     obtain ⟨w6, hw6⟩ : ∃ w6, w5.drewN nq = w6 := ⟨_, rfl⟩
     rw [hw6] at hW6 hO6 ⊢
     clear hw6
     clear c0 c1 cf1 t0 t1 t2 t3 e0 e1 e2 e3 z0 z1 z2 z3 f0 f1 f2 f3 l0 l1 lb
     obtain ⟨c0, c1, cf1, ⟨t0, t1, t2, t3⟩, ⟨e0, e1, e2, e3⟩, ⟨z0, z1, z2, z3⟩, ⟨f0, f1, f2, f3⟩, l0, l1, lb⟩ := hW6.facts
     have HW6 := Lib.hid hW6
     have HO6 := Lib.hid hO6
     clear hW6 hO6 hW5 hO5
     by_cases hend : m + 1 = s.size
     ·have bend : ((m : Int) + 1 == (s.size : Int)) = true := by simp; omega
      have HEN := Lib.hid hend
      clear hend
      have HQ : Hid (Lx.quoted k (s.data.toList.drop (k + 1)) [] 1 = .bad 12 (m + 1)) := HE.out.symm.trans (by
       rw [HD.out, List.drop_eq_nil_of_le (i := m + 1) (by rw [zgZ, HEN.out]; exact Nat.le_refl _), zexZ H92.out, show k + (m - k) + 1 = m + 1 from by omega])
      go_wp2
      go_region_with (go_at_call 124; refine (zbdZ _ _ _).mono ?_; rintro e w' ⟨rfl, rfl⟩)
      all_goals
       go_wp2
       refine bodyPost_ret (v := .tuple #[.agg #[.int .i64 k, .int .i64 0, .string ⟨#[]⟩, .int .i64 0], .pointer (some ⟨w6.heap.size, 0, none⟩)]) (by simp [results, Tryz.results147, go_sem, z0, z1, z2, z3, f0, f1, f2, f3, l1]) rfl ?_
       exact resBad (xa := m + 1) (by first | rfl | omega) HQ.out HW6.out.g HW6.out.c (by have := HW6.out.b; omega) (by omega) _ _ _ _
     ·have bend : ((m : Int) + 1 == (s.size : Int)) = false := by simp; omega
      have hlt2 : m + 1 < s.size := by omega
      have hi2 : (m : Int) + 1 < (s.size : Int) := by omega
      have hi20 : (0 : Int) ≤ (m : Int) + 1 := by omega
      have HD2 := Lib.hid (byte_at s (m + 1) hlt2)
      go_wp2
      go_quiet (fail)
      have hW7 := HW6.out.drewN nq
      have hO7 := HO6.out.drewN nq
      obtain ⟨w7, hw7⟩ : ∃ w7, w6.drewN nq = w7 := ⟨_, rfl⟩
      rw [hw7] at hW7 hO7 ⊢
      clear hw7
      clear c0 c1 cf1 t0 t1 t2 t3 e0 e1 e2 e3 z0 z1 z2 z3 f0 f1 f2 f3 l0 l1 lb
      obtain ⟨c0, c1, cf1, ⟨t0, t1, t2, t3⟩, ⟨e0, e1, e2, e3⟩, ⟨z0, z1, z2, z3⟩, ⟨f0, f1, f2, f3⟩, l0, l1, lb⟩ := hW7.facts
      have HW7 := Lib.hid hW7
      have HO7 := Lib.hid hO7
      clear hW7 hO7
      have HES : Hid (Lx.quoted k (s.data.toList.drop (k + 1)) [] 1 = if (s[m + 1]'hlt2).toNat == 110 then Lx.quoted k (s.data.toList.drop (m + 1 + 1)) (l ++ [10]) (m - k + 2) else if (s[m + 1]'hlt2).toNat == 34 || (s[m + 1]'hlt2).toNat == 92 then Lx.quoted k (s.data.toList.drop (m + 1 + 1)) (l ++ [s[m + 1]'hlt2]) (m - k + 2) else .bad 12 (k + (m - k) + 1)) :=
       HE.out.symm.trans (by rw [HD.out, HD2.out]; exact zvZ H92.out)
      by_cases h110 : (s[m + 1]'hlt2).toNat = 110
      ·have B110 : (((s[m + 1]'hlt2).toNat : Int) == 110) = true := by simp; omega
       have HQ : Hid (Lx.quoted k (s.data.toList.drop (m + 2)) (l ++ [10]) (m + 2 - k) = Lx.quoted k (s.data.toList.drop (k + 1)) [] 1) := by
        have e := HES.out
        rw [if_pos (by simp [h110]), show m - k + 2 = m + 2 - k from by omega] at e
        exact e.symm
       clear h110
       go_wp2_with (at_builtin; refine appByte (w.heap.size + 2) rfl (.tmp 103) (.tmp 104) rfl _ l 10 rfl rfl HO7.out (by omega) (by omega) ?_; intro v1 w1 hown hgr; have hW1 := (HW7.out.row (World.grownBy_alloc w7 _ none) (fun g e => nomatch e)).row hgr (fun g hg => OwnB.base HO7.out g hg); clear c0 c1 cf1 t0 t1 t2 t3 e0 e1 e2 e3 z0 z1 z2 z3 f0 f1 f2 f3 l0 l1 lb; obtain ⟨c0, c1, cf1, ⟨t0, t1, t2, t3⟩, ⟨e0, e1, e2, e3⟩, ⟨z0, z1, z2, z3⟩, ⟨f0, f1, f2, f3⟩, l0, l1, lb⟩ := hW1.facts)
       have HO1 := Lib.hid hown
       have HW1 := Lib.hid hW1
       clear hown hgr hW1
       go_wp2
       go_roundg (s.size - (m + 2))
       case measure => have := HN.out; omega
       case rel => exact ⟨m + 2, _, rfl, by omega, by omega, HW1.out.set _ _ (by omega), HO1.out.set (by omega) _ _, by simp; omega, HQ.out⟩
      ·have B110 : (((s[m + 1]'hlt2).toNat : Int) == 110) = false := by simp; omega
       by_cases hq : (s[m + 1]'hlt2).toNat = 34 ∨ (s[m + 1]'hlt2).toNat = 92
       ·have HQ : Hid (Lx.quoted k (s.data.toList.drop (m + 2)) (l ++ [s[m + 1]'hlt2]) (m + 2 - k) = Lx.quoted k (s.data.toList.drop (k + 1)) [] 1) := by
         have e := HES.out
         rw [if_neg (by simpa using h110), if_pos (by simpa using hq), show m - k + 2 = m + 2 - k from by omega] at e
         exact e.symm
        clear h110
        have HW8 : Hid (TW w b s k w7.drew (m + 1)) := HW7.out.drewN 1
        have HO8 : Hid (OwnB w7.drew (w.heap.size + 2) (.slice A0 l.length cap0) l) := HO7.out.drewN 1
        by_cases h34b : (s[m + 1]'hlt2).toNat = 34
        ·have B34b : (((s[m + 1]'hlt2).toNat : Int) == 34) = true := by simp; omega
         clear h34b hq
         go_upto_region 21 with fail
         go_region_law (refine zglZ (W := (w7.alloc (.cells #[.int .u8 ((s[m + 1]'hlt2).toNat : Int)] 5)).drew) (w.heap.size + 2) rfl (.tmp 109) (.tmp 119) rfl _ l (s[m + 1]'hlt2) w7.heap.size rfl rfl (by exact heap_alloc_new w7 _) (by exact (HO7.out.alloc _).drewN 1) (by simp; omega) (by omega) ?_; intro v1 w1 hown hgr; have hW1 := ((HW7.out.row (World.grownBy_alloc w7 _ none) (fun g e => nomatch e)).drewN 1).row hgr (fun g hg => OwnB.base HO7.out g hg); clear c0 c1 cf1 t0 t1 t2 t3 e0 e1 e2 e3 z0 z1 z2 z3 f0 f1 f2 f3 l0 l1 lb; obtain ⟨c0, c1, cf1, ⟨t0, t1, t2, t3⟩, ⟨e0, e1, e2, e3⟩, ⟨z0, z1, z2, z3⟩, ⟨f0, f1, f2, f3⟩, l0, l1, lb⟩ := hW1.facts)
         all_goals
          have HO9 := Lib.hid hown
          have HW9 := Lib.hid hW1
          clear hown hgr hW1
          go_wp2
          go_roundg (s.size - (m + 2))
          case measure => have := HN.out; omega
          case rel => exact ⟨m + 2, _, rfl, by omega, by omega, HW9.out.set _ _ (by omega), HO9.out.set (by omega) _ _, by simp; omega, HQ.out⟩
        ·have B34b : (((s[m + 1]'hlt2).toNat : Int) == 34) = false := by simp; omega
         have B92b : (((s[m + 1]'hlt2).toNat : Int) == 92) = true := by simp; omega
         clear h34b hq
         go_upto_region 21 with fail
         go_region_law (refine zglZ (W := (w7.alloc (.cells #[.int .u8 ((s[m + 1]'hlt2).toNat : Int)] 5)).drew) (w.heap.size + 2) rfl (.tmp 109) (.tmp 119) rfl _ l (s[m + 1]'hlt2) w7.heap.size rfl rfl (by exact heap_alloc_new w7 _) (by exact (HO7.out.alloc _).drewN 1) (by simp; omega) (by omega) ?_; intro v1 w1 hown hgr; have hW1 := ((HW7.out.row (World.grownBy_alloc w7 _ none) (fun g e => nomatch e)).drewN 1).row hgr (fun g hg => OwnB.base HO7.out g hg); clear c0 c1 cf1 t0 t1 t2 t3 e0 e1 e2 e3 z0 z1 z2 z3 f0 f1 f2 f3 l0 l1 lb; obtain ⟨c0, c1, cf1, ⟨t0, t1, t2, t3⟩, ⟨e0, e1, e2, e3⟩, ⟨z0, z1, z2, z3⟩, ⟨f0, f1, f2, f3⟩, l0, l1, lb⟩ := hW1.facts)
         all_goals
          have HO9 := Lib.hid hown
          have HW9 := Lib.hid hW1
          clear hown hgr hW1
          go_wp2
          go_roundg (s.size - (m + 2))
          case measure => have := HN.out; omega
          case rel => exact ⟨m + 2, _, rfl, by omega, by omega, HW9.out.set _ _ (by omega), HO9.out.set (by omega) _ _, by simp; omega, HQ.out⟩
       ·have HQ : Hid (Lx.quoted k (s.data.toList.drop (k + 1)) [] 1 = .bad 12 (m + 1)) := by
         have e := HES.out
         rw [if_neg (by simpa using h110), if_neg (by simpa using hq), show k + (m - k) + 1 = m + 1 from by omega] at e
         exact e
        have B34b : (((s[m + 1]'hlt2).toNat : Int) == 34) = false := by simp; omega
        have B92b : (((s[m + 1]'hlt2).toNat : Int) == 92) = false := by simp; omega
        clear h110 hq
        go_wp2
        go_region_with (go_at_call 124; refine (zbdZ _ _ _).mono ?_; rintro e w' ⟨rfl, rfl⟩)
        all_goals
         go_wp2
         refine bodyPost_ret (v := .tuple #[.agg #[.int .i64 k, .int .i64 0, .string ⟨#[]⟩, .int .i64 0], .pointer (some ⟨w7.heap.size, 0, none⟩)]) (by simp [results, Tryz.results147, go_sem, z0, z1, z2, z3, f0, f1, f2, f3, l1]) rfl ?_
         exact resBad (xa := m + 1) (by first | rfl | omega) HQ.out HW7.out.g HW7.out.c (by have := HW7.out.b; omega) (by omega) _ _ _ _
    ·have B92 : (((s[m]'hlt).toNat : Int) == 92) = false := by simp; omega
     have H92 := Lib.hid h92
     clear h92
     by_cases hbad : (s[m]'hlt).toNat < 32 ∨ 126 < (s[m]'hlt).toNat
     ·have HB := Lib.hid hbad
      by_cases h32 : (((s[m]'hlt).toNat : Nat) : Int) < 32
      ·clear hbad
       have HQ : Hid (Lx.quoted k (s.data.toList.drop (k + 1)) [] 1 = .bad 12 m) := (HE.out.symm.trans (by rw [HD.out, zcrZ H34.out H92.out HB.out, show k + (m - k) = m from by omega]))
       go_wp2
       go_region_with (go_at_call 124; refine (zbdZ _ _ _).mono ?_; rintro e w' ⟨rfl, rfl⟩)
       all_goals
        go_wp2
        refine bodyPost_ret (v := .tuple #[.agg #[.int .i64 k, .int .i64 0, .string ⟨#[]⟩, .int .i64 0], .pointer (some ⟨w4.heap.size, 0, none⟩)]) (by simp [results, Tryz.results147, go_sem, z0, z1, z2, z3, f0, f1, f2, f3, l1]) rfl ?_
        exact resBad (xa := m) (by first | rfl | omega) HQ.out HWr.out.g HWr.out.c (by have := HWr.out.b; omega) (by omega) _ _ _ _
      ·have h126 : (126 : Int) < (((s[m]'hlt).toNat : Nat) : Int) := by omega
       have h32' : ¬ (((s[m]'hlt).toNat : Nat) : Int) < 32 := h32
       clear hbad
       have HQ : Hid (Lx.quoted k (s.data.toList.drop (k + 1)) [] 1 = .bad 12 m) := (HE.out.symm.trans (by rw [HD.out, zcrZ H34.out H92.out HB.out, show k + (m - k) = m from by omega]))
       go_wp2
       go_region_with (go_at_call 124; refine (zbdZ _ _ _).mono ?_; rintro e w' ⟨rfl, rfl⟩)
       all_goals
        go_wp2
        refine bodyPost_ret (v := .tuple #[.agg #[.int .i64 k, .int .i64 0, .string ⟨#[]⟩, .int .i64 0], .pointer (some ⟨w4.heap.size, 0, none⟩)]) (by simp [results, Tryz.results147, go_sem, z0, z1, z2, z3, f0, f1, f2, f3, l1]) rfl ?_
        exact resBad (xa := m) (by first | rfl | omega) HQ.out HWr.out.g HWr.out.c (by have := HWr.out.b; omega) (by omega) _ _ _ _
     ·have HB := Lib.hid hbad
      have h32 : (32 : Int) ≤ (((s[m]'hlt).toNat : Nat) : Int) := by omega
      have h126 : (((s[m]'hlt).toNat : Nat) : Int) ≤ 126 := by omega
      clear hbad
      have HQ : Hid (Lx.quoted k (s.data.toList.drop (m + 1)) (l ++ [s[m]'hlt]) (m + 1 - k) = Lx.quoted k (s.data.toList.drop (k + 1)) [] 1) := by
       have e := HE.out
       rw [HD.out, zdkZ H34.out H92.out HB.out, show m - k + 1 = m + 1 - k from by omega] at e
       exact e
      go_wp2_with (at_builtin; refine appByte (w.heap.size + 2) rfl (.tmp 41) (.tmp 43) rfl _ l (s[m]'hlt) rfl rfl HOr.out (by omega) (by omega) ?_; intro v1 w1 hown hgr; have hW1 := (HWr.out.row (World.grownBy_alloc w4 _ none) (fun g e => nomatch e)).row hgr (fun g hg => OwnB.base HOr.out g hg); clear c0 c1 cf1 t0 t1 t2 t3 e0 e1 e2 e3 z0 z1 z2 z3 f0 f1 f2 f3 l0 l1 lb; obtain ⟨c0, c1, cf1, ⟨t0, t1, t2, t3⟩, ⟨e0, e1, e2, e3⟩, ⟨z0, z1, z2, z3⟩, ⟨f0, f1, f2, f3⟩, l0, l1, lb⟩ := hW1.facts)
      have HO1 := Lib.hid hown
      have HW1 := Lib.hid hW1
      clear hown hgr hW1
      go_wp2
      go_roundg (s.size - (m + 1))
      case measure => have := HN.out; omega
      case rel => exact ⟨m + 1, _, rfl, by omega, by omega, HW1.out.set _ _ (by omega), HO1.out.set (by omega) _ _, by simp; omega, HQ.out⟩
  ·have HM : Hid (m = s.size) := by
    have : m = s.size := by omega
    exact this
   go_wp2
   go_quiet (fail)
   have hWq := HW.out.drewN nq
   obtain ⟨w3, hw3⟩ : ∃ w3, wr.drewN nq = w3 := ⟨_, rfl⟩
   rw [hw3] at hWq ⊢
   clear hw3
   clear c0 c1 cf1 t0 t1 t2 t3 e0 e1 e2 e3 z0 z1 z2 z3 f0 f1 f2 f3 l0 l1 lb
   obtain ⟨c0, c1, cf1, ⟨t0, t1, t2, t3⟩, ⟨e0, e1, e2, e3⟩, ⟨z0, z1, z2, z3⟩, ⟨f0, f1, f2, f3⟩, l0, l1, lb⟩ := hWq.facts
   have HWq := Lib.hid hWq
   clear hWq
   have HQ : Hid (Lx.quoted k (s.data.toList.drop (k + 1)) [] 1 = .bad 12 m) := HE.out.symm.trans (by
    rw [List.drop_eq_nil_of_le (by rw [zgZ, HM.out]; exact Nat.le_refl _), Lx.quoted, show k + (m - k) = m from by omega])
   go_wp2
   go_region_with (go_at_call 124; refine (zbdZ _ _ _).mono ?_; rintro e w' ⟨rfl, rfl⟩)
   all_goals
    go_wp2
    refine bodyPost_ret (v := .tuple #[.agg #[.int .i64 k, .int .i64 0, .string ⟨#[]⟩, .int .i64 0], .pointer (some ⟨w3.heap.size, 0, none⟩)]) (by simp [results, Tryz.results147, go_sem, z0, z1, z2, z3, f0, f1, f2, f3, l1]) rfl ?_
    exact resBad (xa := m) (by first | rfl | omega) HQ.out HWq.out.g HWq.out.c (by have := HWq.out.b; omega) (by omega) _ _ _ _
end Go.Proofs.YtdncljdfmdgdaaaGreatDoor
