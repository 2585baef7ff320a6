/-
  The walk of rightExpr.
-/
/-
 The walk of rightExpr.
-/
import Derived.Test.YtdncljdfmdgdaaaGreatDoorM16
import Derived.Test.YtdncljdfmdgdaaaGreatDoorM17
import Derived.IntWalk
namespace Go.Proofs.YtdncljdfmdgdaaaGreatDoor
open Go.RowKit Go.Shelf Go.WideMaps
set_option linter.unusedSimpArgs false
set_option linter.unusedVariables false
structure Held2 (L : Nat) (W : World) (cs : Array Value) (t : TypeId) (L2 : Nat) (cs2 : Array Value) (t2 : TypeId) (w : World) : Prop where
 b : Below L W w
 b1 : w.heap[L]? = some (.cells cs t (0, 0))
 b2 : w.heap[L2]? = some (.cells cs2 t2 (0, 0))
theorem Held2.go {L L2 : Nat} {W w w' : World} {cs cs2 : Array Value} {t t2 : TypeId} (h : Held2 L W cs t L2 cs2 t2 w) (hb : Below w.heap.size w w') : Held2 L W cs t L2 cs2 t2 w' :=
 ⟨h.b.trans (hb.mono (Nat.le_of_lt (zaZ h.b1))), (hb.block _ (zaZ h.b1)).trans h.b1, (hb.block _ (zaZ h.b2)).trans h.b2⟩
theorem Held2.lt {L L2 : Nat} {W w : World} {cs cs2 : Array Value} {t t2 : TypeId} (h : Held2 L W cs t L2 cs2 t2 w) : L < w.heap.size ∧ L2 < w.heap.size := ⟨zaZ h.b1, zaZ h.b2⟩
theorem Held2.drew {L L2 : Nat} {W w : World} {cs cs2 : Array Value} {t t2 : TypeId} (h : Held2 L W cs t L2 cs2 t2 w) : Held2 L W cs t L2 cs2 t2 w.drew := h.go (Below.drew (Below.refl _ _))
theorem zkZ {w : World} {g t : Nat} {a b c d e f : Value} (h : w.heap[g]? = some (.cells #[a, b, c, d, e, f] t (0, 0))) :
  w.cell? ⟨g, 0, none⟩ = some a ∧ w.cell? ⟨g, 1, none⟩ = some b ∧ w.cell? ⟨g, 2, none⟩ = some c ∧ w.cell? ⟨g, 3, none⟩ = some d ∧ w.cell? ⟨g, 4, none⟩ = some e ∧ w.cell? ⟨g, 5, none⟩ = some f :=
 ⟨cell_of h 0, cell_of h 1, cell_of h 2, cell_of h 3, cell_of h 4, cell_of h 5⟩
theorem Sx.rightX_eq (d : Nat) (x : Sx.Ex) : Sx.rightX NM d x = (decide (d ≠ 0) && (Sx.shapeX NM x.kind x.n x.s x.t x.names x.parts.length && Sx.rightXs NM (if Sx.flat x.kind then d else d - 1) (d - 1) x.parts)) := by
 cases x with
 | mk pos k n s t ns ps =>
  cases d with
  | zero => simp [Sx.rightX]
  | succ d =>
   rw [Sx.rightX]
   show _ = (decide (d + 1 ≠ 0) && (Sx.shapeX NM k n s t ns ps.length && Sx.rightXs NM (if Sx.flat k then d + 1 else d + 1 - 1) (d + 1 - 1) ps))
   simp
theorem Sx.right0_head : ∀ (t : List Sx.Ty) (h : 0 < t.length), Sx.rightT NM 64 (t[0]'h) = Sx.right0 t
 | a :: l, h => rfl
theorem Sx.rightXs_snoc (N : Sx.Names) : ∀ (l : List Sx.Ex) (d0 d : Nat) (x : Sx.Ex), Sx.rightXs N d0 d (l ++ [x]) = (Sx.rightXs N d0 d l && Sx.rightX N (if l.length = 0 then d0 else d) x)
 | [], d0, d, x => by simp [Sx.rightXs]
 | y :: l, d0, d, x => by
  rw [List.cons_append, Sx.rightXs, Sx.rightXs, Sx.rightXs_snoc N l d d x]
  simp [Bool.and_assoc]
theorem Sx.rightXs_pre (N : Sx.Names) : ∀ (l m : List Sx.Ex) (d0 d : Nat), Sx.rightXs N d0 d l = false → Sx.rightXs N d0 d (l ++ m) = false
 | [], m, d0, d, h => by simp [Sx.rightXs] at h
 | y :: l, m, d0, d, h => by
  rw [List.cons_append, Sx.rightXs]
  rw [Sx.rightXs] at h
  cases hy : Sx.rightX N d0 y with
  | false => rfl
  | true =>
   rw [hy] at h
   rw [Sx.rightXs_pre N l m d d (by simpa using h)]
   rfl
def RightXOk (d : Nat) (x : Sx.Ex) : Prop := ∀ (v : Value) (W : World), GS W → NG ≤ W.heap.size → IsEx W v x → Sx.sizeX x ≤ 1000000 →
 Calls Tryz.prog 63 #[v, .int .i64 (d : Nat)] W fun e W' => e = .returned (.bool (Sx.rightX NM d x)) ∧ Below W.heap.size W W'
set_option maxRecDepth 100000 in
set_option maxHeartbeats 16000000 in
theorem zjsZ (d : Nat) (hd : d ≤ 64) (x : Sx.Ex) (ih : ∀ p ∈ x.parts, ∀ d, d ≤ 64 → RightXOk d p) : RightXOk d x := by
 intro v W hG hN ht0 hsz
 obtain ⟨At, ct, An, cn, Ap, cp, rfl, htt, hnn, hp, hn0, hn1⟩ := ht0.agg
 have hsp := Sx.sizeX_parts x
 have hxl := Sx.length_sizeXs x.parts
 have htyl := Sx.length_size x.t
 have hsl := Sx.textX_len x
 have hge := Sx.good_eq (k := x.kind) (n := x.n) (s := x.s) (t := x.t) (ns := x.names) (m := x.parts.length) (by omega)
 have hrx := Sx.rightX_eq d x
 obtain ⟨⟨⟨hs, hn, ht, hnm, hl, hm⟩, ok⟩, hso⟩ : ∃ r, Sx.shapeOf x.kind = r := ⟨_, rfl⟩
 have hSO := zirZ x.kind
 rw [hso] at hSO
 have hRT := fun X hX => zhcZ ⟨hs, hn, ht, hnm, hl, hm⟩ x.s X (hG.below hX) (Nat.le_trans hN hX.size) (by omega)
 have hTY := fun (p : Sx.Ty) (hp : p ∈ x.t) u X hX hu => zcuZ 64 (by omega) p u X (hG.below hX) (Nat.le_trans hN hX.size) hu (by have := Sx.size_mem hp; omega)
 have hUN := fun X (hX : Below W.heap.size W X) => zdpZ x.names (.slice An x.names.length cn) X (hG.below hX) (Nat.le_trans hN hX.size) (hnn.below hX) (by omega) (fun s hs => by have := Sx.nameX_len hs; omega)
 simp only [Sx.good, hso] at hge
 simp only [Sx.Sh.v] at hSO hRT
 obtain ⟨rt, hrt⟩ : ∃ b, Sx.rightText ⟨hs, hn, ht, hnm, hl, hm⟩ x.s = b := ⟨_, rfl⟩
 obtain ⟨ul, hul⟩ : ∃ b, Sx.apart NM x.names = b := ⟨_, rfl⟩
 obtain ⟨r0, hr0⟩ : ∃ b, Sx.right0 x.t = b := ⟨_, rfl⟩
 obtain ⟨k3, hk3⟩ : ∃ b, (x.kind == 3) = b := ⟨_, rfl⟩
 obtain ⟨nz, hnz⟩ : ∃ b, (x.n != 0) = b := ⟨_, rfl⟩
 obtain ⟨nn, hnn1⟩ : ∃ b, decide (x.n < 0) = b := ⟨_, rfl⟩
 obtain ⟨n1, hn11⟩ : ∃ b, decide (1 < x.n) = b := ⟨_, rfl⟩
 obtain ⟨e, he⟩ : ∃ e : Int, (d : Int) = e := ⟨_, rfl⟩
 obtain ⟨d0, hd0⟩ : ∃ b, (e == 0) = b := ⟨_, rfl⟩
 obtain ⟨t1, ht1⟩ : ∃ b, ((x.t.length : Int) == 1) = b := ⟨_, rfl⟩
 obtain ⟨t0, ht0'⟩ : ∃ b, decide ((0 : Int) < (x.t.length : Int)) = b := ⟨_, rfl⟩
 obtain ⟨nm, hnm1⟩ : ∃ b, ((x.parts.length : Int) != (x.names.length : Int)) = b := ⟨_, rfl⟩
 obtain ⟨n0, hn01⟩ : ∃ b, decide ((0 : Int) < (x.names.length : Int)) = b := ⟨_, rfl⟩
 obtain ⟨ls, hls⟩ : ∃ b, decide ((x.parts.length : Int) < hl) = b := ⟨_, rfl⟩
 obtain ⟨ms, hms⟩ : ∃ b, decide (hm < (x.parts.length : Int)) = b := ⟨_, rfl⟩
 have et1 : (x.t.length == 1) = t1 := by rw [← ht1, Bool.eq_iff_iff, beq_iff_eq, beq_iff_eq]; omega
 have et0 : decide (0 < x.t.length) = t0 := by rw [← ht0', Bool.eq_iff_iff, decide_eq_true_eq, decide_eq_true_eq]; omega
 have enm : (x.parts.length != x.names.length) = nm := by rw [← hnm1, Bool.eq_iff_iff, bne_iff_ne, bne_iff_ne]; omega
 have en0 : decide (0 < x.names.length) = n0 := by rw [← hn01, Bool.eq_iff_iff, decide_eq_true_eq, decide_eq_true_eq]; omega
 rw [hrt, hul, hr0, hk3, hnz, hnn1, hn11, et1, et0, enm, en0, hls, hms] at hge
 have hdz : decide (d ≠ 0) = !d0 := by rw [← hd0, Bool.eq_iff_iff, decide_eq_true_eq]; simp; omega
 have I2 : Sx.b2 ok d0 rt hn nz nn k3 n1 = true → Sx.rightX NM d x = false := by
  intro h
  rw [hrx, hge, hdz]
  cases d0
  ·rw [h]; rfl
  ·rfl
 have I4 : Sx.b4 ht t1 t0 r0 = true → Sx.rightX NM d x = false := by
  intro h
  rw [hrx, hge, h]
  simp
 have I7 : Sx.b7 hnm nm ul n0 ls ms = true → Sx.rightX NM d x = false := by
  intro h
  rw [hrx, hge, h]
  simp
 have IR : Sx.b2 ok d0 rt hn nz nn k3 n1 = false → Sx.b4 ht t1 t0 r0 = false → Sx.b7 hnm nm ul n0 ls ms = false → Sx.rightX NM d x = Sx.rightXs NM (if Sx.flat x.kind then d else d - 1) (d - 1) x.parts ∧ 1 ≤ d := by
  intro h1 h2 h3
  have hd0f : d0 = false := by
   cases d0 with
   | false => rfl
   | true => cases ok <;> simp [Sx.b2] at h1
  subst hd0f
  rw [hrx, hge, h1, h2, h3]
  have : d ≠ 0 := by simpa using hdz
  exact ⟨by simp [this], by omega⟩
 have hT0 : ∀ (h : 0 < x.t.length), Sx.rightT NM 64 (x.t[0]'h) = r0 := fun h => by rw [← hr0]; exact Sx.right0_head _ h
 obtain ⟨kd, hkd⟩ : ∃ kd, x.kind = kd := ⟨_, rfl⟩
 obtain ⟨nv, hnv⟩ : ∃ nv, x.n = nv := ⟨_, rfl⟩
 obtain ⟨tl, htl⟩ : ∃ k, x.t.length = k := ⟨_, rfl⟩
 obtain ⟨nl, hnl⟩ : ∃ k, x.names.length = k := ⟨_, rfl⟩
 obtain ⟨k, hk⟩ : ∃ k, x.parts.length = k := ⟨_, rfl⟩
 have hFU := fun (i : Nat) w => zisZ kd i w
 have hki : (k : Int) ≤ 1000000 := by omega
 have hk0 : (0 : Int) ≤ (k : Int) := by omega
 have hnl0 : (0 : Int) ≤ (nl : Int) := by omega
 have htl0 : (0 : Int) ≤ (tl : Int) := by omega
 have hnli : (nl : Int) ≤ 1000000 := by omega
 have htli : (tl : Int) ≤ 1000000 := by omega
 have he0 : (0 : Int) ≤ e := by omega
 have he64 : e ≤ 64 := by omega
 rw [he, hkd, hnv, htl, hnl, hk]
 rw [hkd] at hk3 hSO IR
 rw [hnv] at hnz hnn1 hn11
 rw [htl] at ht1 ht0' htt
 rw [hnl, hk] at hnm1
 rw [hnl] at hn01 hnn
 rw [hk] at hls hms hp
 rw [hnl] at hUN
 have HIH := Lib.hid ih
 have HRT := Lib.hid hRT
 have HTY := Lib.hid hTY
 have HUN := Lib.hid hUN
 have HFU := Lib.hid hFU
 have HSO := Lib.hid hSO
 have HI2 := Lib.hid I2
 have HI4 := Lib.hid I4
 have HI7 := Lib.hid I7
 have HIR := Lib.hid IR
 have HT0 := Lib.hid hT0
 have HTT := Lib.hid htt
 have HP := Lib.hid hp
 have HG := Lib.hid hG
 have HN := Lib.hid hN
 have HE := Lib.hid he
 have HK := Lib.hid hk
 have HTL := Lib.hid htl
 have HHD := Lib.hid hd
 have HSX := Lib.hid (show Sx.sizeXs x.parts ≤ 1000000 by omega)
 rw [hrt] at HRT
 rw [hul] at HUN
 obtain ⟨L, hL⟩ : ∃ L, W.heap.size = L := ⟨_, rfl⟩
 obtain ⟨w2, hw2⟩ : ∃ w2, W.alloc (.cells #[.int .i64 x.pos, .int .i64 kd, .int .i64 nv, .string ⟨x.s.toArray⟩, .slice At tl ct, .slice An nl cn, .slice Ap k cp] 39) = w2 := ⟨_, rfl⟩
 have hbox : w2.heap[L]? = some (.cells #[.int .i64 x.pos, .int .i64 kd, .int .i64 nv, .string ⟨x.s.toArray⟩, .slice At tl ct, .slice An nl cn, .slice Ap k cp] 39 (0, 0)) := by rw [← hw2, ← hL]; exact heap_alloc_new W _
 have hb2 : Below L W w2 := by rw [← hw2, ← hL]; exact zdZ (World.grownBy_alloc W _ none)
 have hlw : L ≤ w2.heap.size := by have := hb2.size; omega
 obtain ⟨x0, x1, x2, x3, x4, x5, x6⟩ := zbZ hbox
 have hl2 := zaZ hbox
 have HBX := Lib.hid hbox
 have HB2 := Lib.hid hb2
 have HL := Lib.hid hL
 clear hSO hRT hTY hUN hFU I2 I4 I7 IR hT0 htt hp hG hN he hk htl ht0 hsz hnn hn0 hn1 hsp hxl htyl hsl hge hrx hso hrt hul hr0 et1 et0 enm en0 hdz hkd hnv hnl ih hbox hb2 hd
 go_enter Tryz.func63, Tryz.ntmps63
 go_upto_region 2 with (go_at_call 110; refine (HSO.out w2).mono ?_; rintro e w3 ⟨rfl, hb3⟩)
 clear x0 x1 x2 x3 x4 x5 x6
 obtain ⟨w4, hw4⟩ : ∃ w4, w3.alloc (.cells #[.int .i64 hs, .bool hn, .bool ht, .bool hnm, .int .i64 hl, .int .i64 hm] 160) = w4 := ⟨_, rfl⟩
 rw [hw4]
 obtain ⟨L5, hL5⟩ : ∃ L5, w3.heap.size = L5 := ⟨_, rfl⟩
 have hlv : Held2 L W #[.int .i64 x.pos, .int .i64 kd, .int .i64 nv, .string ⟨x.s.toArray⟩, .slice At tl ct, .slice An nl cn, .slice Ap k cp] 39 L5 #[.int .i64 hs, .bool hn, .bool ht, .bool hnm, .int .i64 hl, .int .i64 hm] 160 w4 := by
  have h3 : w3.heap[L]? = _ := (hb3.block L hl2).trans HBX.out
  have hg := World.grownBy_alloc w3 (.cells #[.int .i64 hs, .bool hn, .bool ht, .bool hnm, .int .i64 hl, .int .i64 hm] 160) none
  refine ⟨(HB2.out.trans (hb3.mono hlw)).trans ?_, ?_, ?_⟩
  ·rw [← hw4]; exact (zdZ hg).mono (Nat.le_trans hlw hb3.size)
  ·rw [← hw4]; exact (hg.block L (zaZ h3) (fun e => nomatch e)).trans h3
  ·rw [← hw4, ← hL5]; exact heap_alloc_new w3 _
 rw [hL5]
 have H4 := Lib.hid hlv
 clear hw4 hlv hb3 hl2 hlw hw2 hL5 hL
 obtain ⟨x0, x1, x2, x3, x4, x5, x6⟩ := zbZ H4.out.b1
 obtain ⟨y0, y1, y2, y3, y4, y5⟩ := zkZ H4.out.b2
 obtain ⟨hl1, hl2⟩ := H4.out.lt
 have HRTW := Lib.hid (HRT.out w4 (by rw [HL.out]; exact H4.out.b))
 go_cut [53] (fun v wx => v = .bool (Sx.b2 ok d0 rt hn nz nn k3 n1) ∧ Held2 L W #[.int .i64 x.pos, .int .i64 kd, .int .i64 nv, .string ⟨x.s.toArray⟩, .slice At tl ct, .slice An nl cn, .slice Ap k cp] 39 L5 #[.int .i64 hs, .bool hn, .bool ht, .bool hnm, .int .i64 hl, .int .i64 hm] 160 wx)
 case first =>
  have h6 := HL.out
  cases ok with
  | true =>
   cases d0 with
   | true =>
    go_wp2_with fail
    go_meet
    exact ⟨rfl, H4.out⟩
   | false =>
    cases rt with
    | true =>
     cases hn with
     | true =>
      cases nn with
      | true =>
       go_wp2_with (go_at_call 111; refine HRTW.out.mono ?_; rintro e w5 ⟨rfl, hb5⟩; have H5 := Lib.hid (H4.out.go hb5); clear hb5; clear x0 x1 x2 x3 x4 x5 x6 y0 y1 y2 y3 y4 y5 hl1 hl2; obtain ⟨x0, x1, x2, x3, x4, x5, x6⟩ := zbZ H5.out.b1; obtain ⟨y0, y1, y2, y3, y4, y5⟩ := zkZ H5.out.b2; obtain ⟨hl1, hl2⟩ := H5.out.lt)
       go_meet
       exact ⟨rfl, H5.out⟩
      | false =>
       cases k3 with
       | true =>
        cases n1 with
        | true =>
         go_wp2_with (go_at_call 111; refine HRTW.out.mono ?_; rintro e w5 ⟨rfl, hb5⟩; have H5 := Lib.hid (H4.out.go hb5); clear hb5; clear x0 x1 x2 x3 x4 x5 x6 y0 y1 y2 y3 y4 y5 hl1 hl2; obtain ⟨x0, x1, x2, x3, x4, x5, x6⟩ := zbZ H5.out.b1; obtain ⟨y0, y1, y2, y3, y4, y5⟩ := zkZ H5.out.b2; obtain ⟨hl1, hl2⟩ := H5.out.lt)
         go_meet
         exact ⟨rfl, H5.out⟩
        | false =>
         go_wp2_with (go_at_call 111; refine HRTW.out.mono ?_; rintro e w5 ⟨rfl, hb5⟩; have H5 := Lib.hid (H4.out.go hb5); clear hb5; clear x0 x1 x2 x3 x4 x5 x6 y0 y1 y2 y3 y4 y5 hl1 hl2; obtain ⟨x0, x1, x2, x3, x4, x5, x6⟩ := zbZ H5.out.b1; obtain ⟨y0, y1, y2, y3, y4, y5⟩ := zkZ H5.out.b2; obtain ⟨hl1, hl2⟩ := H5.out.lt)
         go_meet
         exact ⟨rfl, H5.out⟩
       | false =>
        go_wp2_with (go_at_call 111; refine HRTW.out.mono ?_; rintro e w5 ⟨rfl, hb5⟩; have H5 := Lib.hid (H4.out.go hb5); clear hb5; clear x0 x1 x2 x3 x4 x5 x6 y0 y1 y2 y3 y4 y5 hl1 hl2; obtain ⟨x0, x1, x2, x3, x4, x5, x6⟩ := zbZ H5.out.b1; obtain ⟨y0, y1, y2, y3, y4, y5⟩ := zkZ H5.out.b2; obtain ⟨hl1, hl2⟩ := H5.out.lt)
        go_meet
        exact ⟨rfl, H5.out⟩
     | false =>
      cases nz with
      | true =>
       go_wp2_with (go_at_call 111; refine HRTW.out.mono ?_; rintro e w5 ⟨rfl, hb5⟩; have H5 := Lib.hid (H4.out.go hb5); clear hb5; clear x0 x1 x2 x3 x4 x5 x6 y0 y1 y2 y3 y4 y5 hl1 hl2; obtain ⟨x0, x1, x2, x3, x4, x5, x6⟩ := zbZ H5.out.b1; obtain ⟨y0, y1, y2, y3, y4, y5⟩ := zkZ H5.out.b2; obtain ⟨hl1, hl2⟩ := H5.out.lt)
       go_meet
       exact ⟨rfl, H5.out⟩
      | false =>
       cases nn with
       | true =>
        go_wp2_with (go_at_call 111; refine HRTW.out.mono ?_; rintro e w5 ⟨rfl, hb5⟩; have H5 := Lib.hid (H4.out.go hb5); clear hb5; clear x0 x1 x2 x3 x4 x5 x6 y0 y1 y2 y3 y4 y5 hl1 hl2; obtain ⟨x0, x1, x2, x3, x4, x5, x6⟩ := zbZ H5.out.b1; obtain ⟨y0, y1, y2, y3, y4, y5⟩ := zkZ H5.out.b2; obtain ⟨hl1, hl2⟩ := H5.out.lt)
        go_meet
        exact ⟨rfl, H5.out⟩
       | false =>
        cases k3 with
        | true =>
         cases n1 with
         | true =>
          go_wp2_with (go_at_call 111; refine HRTW.out.mono ?_; rintro e w5 ⟨rfl, hb5⟩; have H5 := Lib.hid (H4.out.go hb5); clear hb5; clear x0 x1 x2 x3 x4 x5 x6 y0 y1 y2 y3 y4 y5 hl1 hl2; obtain ⟨x0, x1, x2, x3, x4, x5, x6⟩ := zbZ H5.out.b1; obtain ⟨y0, y1, y2, y3, y4, y5⟩ := zkZ H5.out.b2; obtain ⟨hl1, hl2⟩ := H5.out.lt)
          go_meet
          exact ⟨rfl, H5.out⟩
         | false =>
          go_wp2_with (go_at_call 111; refine HRTW.out.mono ?_; rintro e w5 ⟨rfl, hb5⟩; have H5 := Lib.hid (H4.out.go hb5); clear hb5; clear x0 x1 x2 x3 x4 x5 x6 y0 y1 y2 y3 y4 y5 hl1 hl2; obtain ⟨x0, x1, x2, x3, x4, x5, x6⟩ := zbZ H5.out.b1; obtain ⟨y0, y1, y2, y3, y4, y5⟩ := zkZ H5.out.b2; obtain ⟨hl1, hl2⟩ := H5.out.lt)
          go_meet
          exact ⟨rfl, H5.out⟩
        | false =>
         go_wp2_with (go_at_call 111; refine HRTW.out.mono ?_; rintro e w5 ⟨rfl, hb5⟩; have H5 := Lib.hid (H4.out.go hb5); clear hb5; clear x0 x1 x2 x3 x4 x5 x6 y0 y1 y2 y3 y4 y5 hl1 hl2; obtain ⟨x0, x1, x2, x3, x4, x5, x6⟩ := zbZ H5.out.b1; obtain ⟨y0, y1, y2, y3, y4, y5⟩ := zkZ H5.out.b2; obtain ⟨hl1, hl2⟩ := H5.out.lt)
         go_meet
         exact ⟨rfl, H5.out⟩
    | false =>
     go_wp2_with (go_at_call 111; refine HRTW.out.mono ?_; rintro e w5 ⟨rfl, hb5⟩; have H5 := Lib.hid (H4.out.go hb5); clear hb5; clear x0 x1 x2 x3 x4 x5 x6 y0 y1 y2 y3 y4 y5 hl1 hl2; obtain ⟨x0, x1, x2, x3, x4, x5, x6⟩ := zbZ H5.out.b1; obtain ⟨y0, y1, y2, y3, y4, y5⟩ := zkZ H5.out.b2; obtain ⟨hl1, hl2⟩ := H5.out.lt)
     go_meet
     exact ⟨rfl, H5.out⟩
  | false =>
   go_wp2_with fail
   go_meet
   exact ⟨rfl, H4.out⟩
 case rest =>
  obtain ⟨rfl, hheld⟩ := hcut
  have H6 := Lib.hid hheld
  clear hheld x0 x1 x2 x3 x4 x5 x6 y0 y1 y2 y3 y4 y5 hl1 hl2
  obtain ⟨x0, x1, x2, x3, x4, x5, x6⟩ := zbZ H6.out.b1
  obtain ⟨y0, y1, y2, y3, y4, y5⟩ := zkZ H6.out.b2
  obtain ⟨hl1, hl2⟩ := H6.out.lt
  cases hB2 : Sx.b2 ok d0 rt hn nz nn k3 n1 with
  | true =>
   have HF := Lib.hid (HI2.out hB2)
   clear hB2
   go_wp2_with fail
   go_ret
   rw [HF.out, HL.out]
   exact ⟨rfl, H6.out.b⟩
  | false =>
   have HB2F := Lib.hid hB2
   clear hB2
   go_upto_region 4 with fail
   go_cut [83] (fun v wx => v = .bool (Sx.b4 ht t1 t0 r0) ∧ Held2 L W #[.int .i64 x.pos, .int .i64 kd, .int .i64 nv, .string ⟨x.s.toArray⟩, .slice At tl ct, .slice An nl cn, .slice Ap k cp] 39 L5 #[.int .i64 hs, .bool hn, .bool ht, .bool hnm, .int .i64 hl, .int .i64 hm] 160 wx)
   case first =>
    cases ht with
    | true =>
     cases t1 with
     | true =>
      obtain rfl : tl = 1 := by have h9 := ht1; simp at h9; omega
      clear ht1
      have htp : 0 < x.t.length := by have := HTL.out; omega
      have htpi : (0 : Int) < (1 : Int) := by omega
      obtain ⟨gT, offT, AnT, cnT, AeT, ceT, AqT, cqT, rfl, htyT, hcT⟩ := HTT.out.spot 0 htp
      rw [HL.out] at hcT
      obtain ⟨dg, q0, q1, q2, q3, q4⟩ := hcT _ H6.out.b
      rw [Nat.zero_mul, Nat.add_zero] at q0 q1 q2 q3 q4
      have hrr := HTY.out _ (List.getElem_mem htp) _ _ (by rw [HL.out]; exact H6.out.b) (htyT.below (by rw [HL.out]; exact H6.out.b))
      rw [HT0.out htp] at hrr
      obtain ⟨pT, hpT⟩ : ∃ p, x.t[0]'htp = p := ⟨_, rfl⟩
      rw [hpT] at q0 q1 q2 q3 q4 hrr
      have HRR := Lib.hid hrr
      clear hcT htyT hrr hpT
      cases r0 with
      | true =>
       go_wp2_with (go_at_call 58; refine HRR.out.mono ?_; rintro e w7 ⟨rfl, hb7⟩; have H7 := Lib.hid (H6.out.go hb7); clear hb7; clear x0 x1 x2 x3 x4 x5 x6 y0 y1 y2 y3 y4 y5 hl1 hl2; obtain ⟨x0, x1, x2, x3, x4, x5, x6⟩ := zbZ H7.out.b1; obtain ⟨y0, y1, y2, y3, y4, y5⟩ := zkZ H7.out.b2; obtain ⟨hl1, hl2⟩ := H7.out.lt)
       go_meet
       exact ⟨rfl, H7.out⟩
      | false =>
       go_wp2_with (go_at_call 58; refine HRR.out.mono ?_; rintro e w7 ⟨rfl, hb7⟩; have H7 := Lib.hid (H6.out.go hb7); clear hb7; clear x0 x1 x2 x3 x4 x5 x6 y0 y1 y2 y3 y4 y5 hl1 hl2; obtain ⟨x0, x1, x2, x3, x4, x5, x6⟩ := zbZ H7.out.b1; obtain ⟨y0, y1, y2, y3, y4, y5⟩ := zkZ H7.out.b2; obtain ⟨hl1, hl2⟩ := H7.out.lt)
       go_meet
       exact ⟨rfl, H7.out⟩
     | false =>
      go_wp2_with fail
      go_meet
      exact ⟨rfl, H6.out⟩
    | false =>
     cases t1 with
     | true =>
      obtain rfl : tl = 1 := by have h9 := ht1; simp at h9; omega
      clear ht1
      go_wp2_with fail
      go_meet
      exact ⟨rfl, H6.out⟩
     | false =>
      cases t0 with
      | true =>
       have hp9 : 0 < tl := by have h9 := ht0'; simp at h9; omega
       have hp8 : (0 : Int) < (tl : Int) := by omega
       clear ht0'
       go_wp2_with fail
       go_meet
       exact ⟨rfl, H6.out⟩
      | false =>
       obtain rfl : tl = 0 := by have h9 := ht0'; simp at h9; omega
       clear ht0'
       go_wp2_with fail
       go_meet
       exact ⟨rfl, H6.out⟩
   case rest =>
    obtain ⟨rfl, hheld⟩ := hcut
    have H8 := Lib.hid hheld
    clear hheld x0 x1 x2 x3 x4 x5 x6 y0 y1 y2 y3 y4 y5 hl1 hl2
    obtain ⟨x0, x1, x2, x3, x4, x5, x6⟩ := zbZ H8.out.b1
    obtain ⟨y0, y1, y2, y3, y4, y5⟩ := zkZ H8.out.b2
    obtain ⟨hl1, hl2⟩ := H8.out.lt
    cases hB4 : Sx.b4 ht t1 t0 r0 with
    | true =>
     have HF := Lib.hid (HI4.out hB4)
     clear hB4
     go_wp2_with fail
     go_ret
     rw [HF.out, HL.out]
     exact ⟨rfl, H8.out.b⟩
    | false =>
     have HB4F := Lib.hid hB4
     clear hB4
     go_upto_region 7 with fail
     have HUNW := Lib.hid (HUN.out _ (by rw [HL.out]; exact H8.out.b))
     go_cut [124] (fun v wx => v = .bool (Sx.b7 hnm nm ul n0 ls ms) ∧ Held2 L W #[.int .i64 x.pos, .int .i64 kd, .int .i64 nv, .string ⟨x.s.toArray⟩, .slice At tl ct, .slice An nl cn, .slice Ap k cp] 39 L5 #[.int .i64 hs, .bool hn, .bool ht, .bool hnm, .int .i64 hl, .int .i64 hm] 160 wx)
     case first =>
      cases hnm with
      | true =>
       cases nm with
       | true =>
        go_wp2_with fail
        go_meet
        exact ⟨rfl, H8.out⟩
       | false =>
        obtain rfl : nl = k := by have h9 := hnm1; simp at h9; omega
        clear hnm1
        cases ul with
        | true =>
         cases ls with
         | true =>
          go_wp2_with (go_at_call 108; refine HUNW.out.mono ?_; rintro e w9 ⟨rfl, hb9⟩; have H9 := Lib.hid (H8.out.go hb9); clear hb9; clear x0 x1 x2 x3 x4 x5 x6 y0 y1 y2 y3 y4 y5 hl1 hl2; obtain ⟨x0, x1, x2, x3, x4, x5, x6⟩ := zbZ H9.out.b1; obtain ⟨y0, y1, y2, y3, y4, y5⟩ := zkZ H9.out.b2; obtain ⟨hl1, hl2⟩ := H9.out.lt)
          go_meet
          exact ⟨rfl, H9.out⟩
         | false =>
          cases ms with
          | true =>
           go_wp2_with (go_at_call 108; refine HUNW.out.mono ?_; rintro e w9 ⟨rfl, hb9⟩; have H9 := Lib.hid (H8.out.go hb9); clear hb9; clear x0 x1 x2 x3 x4 x5 x6 y0 y1 y2 y3 y4 y5 hl1 hl2; obtain ⟨x0, x1, x2, x3, x4, x5, x6⟩ := zbZ H9.out.b1; obtain ⟨y0, y1, y2, y3, y4, y5⟩ := zkZ H9.out.b2; obtain ⟨hl1, hl2⟩ := H9.out.lt)
           go_meet
           exact ⟨rfl, H9.out⟩
          | false =>
           go_wp2_with (go_at_call 108; refine HUNW.out.mono ?_; rintro e w9 ⟨rfl, hb9⟩; have H9 := Lib.hid (H8.out.go hb9); clear hb9; clear x0 x1 x2 x3 x4 x5 x6 y0 y1 y2 y3 y4 y5 hl1 hl2; obtain ⟨x0, x1, x2, x3, x4, x5, x6⟩ := zbZ H9.out.b1; obtain ⟨y0, y1, y2, y3, y4, y5⟩ := zkZ H9.out.b2; obtain ⟨hl1, hl2⟩ := H9.out.lt)
           go_meet
           exact ⟨rfl, H9.out⟩
        | false =>
         go_wp2_with (go_at_call 108; refine HUNW.out.mono ?_; rintro e w9 ⟨rfl, hb9⟩; have H9 := Lib.hid (H8.out.go hb9); clear hb9; clear x0 x1 x2 x3 x4 x5 x6 y0 y1 y2 y3 y4 y5 hl1 hl2; obtain ⟨x0, x1, x2, x3, x4, x5, x6⟩ := zbZ H9.out.b1; obtain ⟨y0, y1, y2, y3, y4, y5⟩ := zkZ H9.out.b2; obtain ⟨hl1, hl2⟩ := H9.out.lt)
         go_meet
         exact ⟨rfl, H9.out⟩
      | false =>
       cases n0 with
       | true =>
        have hp9 : 0 < nl := by have h9 := hn01; simp at h9; omega
        have hp8 : (0 : Int) < (nl : Int) := by omega
        clear hn01
        go_wp2_with fail
        go_meet
        exact ⟨rfl, H8.out⟩
       | false =>
        obtain rfl : nl = 0 := by have h9 := hn01; simp at h9; omega
        clear hn01
        cases ls with
        | true =>
         go_wp2_with fail
         go_meet
         exact ⟨rfl, H8.out⟩
        | false =>
         cases ms with
         | true =>
          go_wp2_with fail
          go_meet
          exact ⟨rfl, H8.out⟩
         | false =>
          go_wp2_with fail
          go_meet
          exact ⟨rfl, H8.out⟩
     case rest =>
      obtain ⟨rfl, hheld⟩ := hcut
      have H10 := Lib.hid hheld
      clear hheld x0 x1 x2 x3 x4 x5 x6 y0 y1 y2 y3 y4 y5 hl1 hl2
      obtain ⟨x0, x1, x2, x3, x4, x5, x6⟩ := zbZ H10.out.b1
      obtain ⟨y0, y1, y2, y3, y4, y5⟩ := zkZ H10.out.b2
      obtain ⟨hl1, hl2⟩ := H10.out.lt
      cases hB7 : Sx.b7 hnm nm ul n0 ls ms with
      | true =>
       have HF := Lib.hid (HI7.out hB7)
       clear hB7
       go_wp2_with fail
       go_ret
       rw [HF.out, HL.out]
       exact ⟨rfl, H10.out.b⟩
      | false =>
       have HB7F := Lib.hid hB7
       clear hB7
       obtain ⟨hrx, hd1⟩ := HIR.out HB2F.out HB4F.out HB7F.out
       have HRX := Lib.hid hrx
       clear hrx
       go_wp2_with fail
       clear x0 x1 x2 x3 x4 x5 x6 y0 y1 y2 y3 y4 y5 hl1 hl2
       go_loopg [128] k (fun i v wr => ∃ (m : Nat), i = k - m ∧ v = .int .i64 (m : Int) ∧ m ≤ k ∧ Held2 L W #[.int .i64 x.pos, .int .i64 kd, .int .i64 nv, .string ⟨x.s.toArray⟩, .slice At tl ct, .slice An nl cn, .slice Ap k cp] 39 L5 #[.int .i64 hs, .bool hn, .bool ht, .bool hnm, .int .i64 hl, .int .i64 hm] 160 wr ∧ Sx.rightXs NM (if Sx.flat kd then d else d - 1) (d - 1) (x.parts.take m) = true)
       case atStart => exact ⟨0, rfl, rfl, Nat.zero_le _, H10.out, by simp [Sx.rightXs]⟩
       case round =>
        obtain ⟨m, hi, rfl, hmk, hheld, hall⟩ := hrel
        have HI := Lib.hid hi
        have HW := Lib.hid hheld
        have HALL := Lib.hid hall
        have m0 : (0 : Int) ≤ (m : Int) := by omega
        clear hi hheld hall
        obtain ⟨x0, x1, x2, x3, x4, x5, x6⟩ := zbZ HW.out.b1
        obtain ⟨y0, y1, y2, y3, y4, y5⟩ := zkZ HW.out.b2
        obtain ⟨hl1, hl2⟩ := HW.out.lt
        by_cases hlt : m < k
        ·have hmi : (m : Int) < (k : Int) := by omega
         have hmp : m < x.parts.length := by have := HK.out; omega
         obtain ⟨g, off, At1, ct1, An1, cn1, Aq, cq, rfl, hty, hc7⟩ := HP.out.spot m hmp
         rw [HL.out] at hc7
         obtain ⟨hg, c0, c1, c2, c3, c4, c5, c6⟩ := hc7 wr HW.out.b
         have htk := List.take_succ_eq_append_getElem hmp
         obtain ⟨p, hpe⟩ : ∃ p, x.parts[m]'hmp = p := ⟨_, rfl⟩
         have hmem : p ∈ x.parts := by rw [← hpe]; exact List.getElem_mem hmp
         rw [hpe] at c0 c1 c2 c3 c4 c5 c6 htk hty
         have hpz : Sx.sizeX p ≤ 1000000 := by have := Sx.sizeX_mem hmem; have := HSX.out; omega
         obtain ⟨f, hf⟩ : ∃ f, Sx.further kd m = f := ⟨_, rfl⟩
         have hfu := HFU.out m
         rw [hf] at hfu
         have hf01 : f ≤ 1 := by rw [← hf]; unfold Sx.further; split <;> omega
         have hdf : (if (x.parts.take m).length = 0 then (if Sx.flat kd then d else d - 1) else d - 1) = d - f := by
          rw [List.length_take, Nat.min_eq_left (Nat.le_of_lt hmp), ← hf]
          unfold Sx.further
          by_cases hz : m = 0
          ·rw [if_pos hz]
           cases hfl : Sx.flat kd <;> simp [hz]
          ·rw [if_neg hz, if_neg (fun h => hz h.2)]
         have hstep := Sx.rightXs_snoc NM (x.parts.take m) (if Sx.flat kd then d else d - 1) (d - 1) p
         rw [HALL.out, hdf, ← htk] at hstep
         have hmore := Sx.rightXs_pre NM (x.parts.take (m + 1)) (x.parts.drop (m + 1)) (if Sx.flat kd then d else d - 1) (d - 1)
         rw [List.take_append_drop] at hmore
         obtain ⟨q, hq⟩ : ∃ q : Int, e - (f : Int) = q := ⟨_, rfl⟩
         have hwq : IntKind.i64.wrap (e - (f : Int)) = q := by rw [IntWalk.i64_in _ (by omega)]; exact hq
         have hqd : q = ((d - f : Nat) : Int) := by have := HE.out; omega
         have f0 : (0 : Int) ≤ (f : Int) := by omega
         have f1 : (f : Int) ≤ 1 := by omega
         obtain ⟨L9, hL9⟩ : ∃ L9, wr.heap.size = L9 := ⟨_, rfl⟩
         obtain ⟨w9, hw9⟩ : ∃ w9, wr.alloc (.cells #[.int .i64 p.pos, .int .i64 p.kind, .int .i64 p.n, .string ⟨p.s.toArray⟩, .slice At1 p.t.length ct1, .slice An1 p.names.length cn1, .slice Aq p.parts.length cq] 39) = w9 := ⟨_, rfl⟩
         have hbox9 : w9.heap[L9]? = some (.cells #[.int .i64 p.pos, .int .i64 p.kind, .int .i64 p.n, .string ⟨p.s.toArray⟩, .slice At1 p.t.length ct1, .slice An1 p.names.length cn1, .slice Aq p.parts.length cq] 39 (0, 0)) := by rw [← hw9, ← hL9]; exact heap_alloc_new wr _
         have H9 := Lib.hid (HW.out.go (by rw [← hw9]; exact zdZ (World.grownBy_alloc wr _ none)) : Held2 L W _ _ L5 _ _ w9)
         have hre : Calls Tryz.prog 63 #[.agg #[.int .i64 p.pos, .int .i64 p.kind, .int .i64 p.n, .string ⟨p.s.toArray⟩, .slice At1 p.t.length ct1, .slice An1 p.names.length cn1, .slice Aq p.parts.length cq], .int .i64 q] w9.drew fun e X' => e = .returned (.bool (Sx.rightX NM (d - f) p)) ∧ Below w9.drew.heap.size w9.drew X' := by
          rw [hqd]
          have hB : Below W.heap.size W w9.drew := by rw [HL.out]; exact H9.out.drew.b
          exact HIH.out p hmem (d - f) (by have := HHD.out; omega) _ w9.drew (HG.out.below hB) (Nat.le_trans HN.out hB.size) (hty.below hB) hpz
         have HRE := Lib.hid hre
         have HSTEP := Lib.hid hstep
         have HMORE := Lib.hid hmore
         have HFUW := Lib.hid hfu
         clear x0 x1 x2 x3 x4 x5 x6 y0 y1 y2 y3 y4 y5 hl1 hl2
         obtain ⟨x0, x1, x2, x3, x4, x5, x6⟩ := zbZ H9.out.b1
         obtain ⟨y0, y1, y2, y3, y4, y5⟩ := zkZ H9.out.b2
         obtain ⟨hl1, hl2⟩ := H9.out.lt
         obtain ⟨z0, z1, z2, z3, z4, z5, z6⟩ := zbZ hbox9
         have hl9 := zaZ hbox9
         clear hq hqd hre hstep hmore hfu hdf htk hc7 hty hpe hmem hpz hf hf01 hbox9
         go_upto_region 12 with fail
         cases hr : Sx.rightX NM (d - f) p with
         | true =>
          rw [hr] at HRE HSTEP
          clear hr
          go_region_with (first
           | (go_at_call 112; refine (HFUW.out _).mono ?_; rintro e w' ⟨rfl, rfl⟩)
           | (go_at_call 63; refine HRE.out.mono ?_; rintro e w11 ⟨rfl, hb11⟩))
          all_goals
           have H11 := Lib.hid (H9.out.drew.go hb11)
           clear hb11
           go_wp2_with fail
           go_roundg (k - (m + 1))
           case measure => have := HI.out; omega
           case rel => exact ⟨m + 1, rfl, by simp, hlt, H11.out, HSTEP.out⟩
         | false =>
          rw [hr] at HRE HSTEP
          have HF := Lib.hid (HMORE.out HSTEP.out)
          clear hr
          go_region_with (first
           | (go_at_call 112; refine (HFUW.out _).mono ?_; rintro e w' ⟨rfl, rfl⟩)
           | (go_at_call 63; refine HRE.out.mono ?_; rintro e w11 ⟨rfl, hb11⟩))
          all_goals
           have H11 := Lib.hid (H9.out.drew.go hb11)
           clear hb11
           go_wp2_with fail
           go_ret
           rw [HRX.out, HF.out, HL.out]
           exact ⟨rfl, H11.out.b⟩
        ·have hmi : ¬ (m : Int) < (k : Int) := by omega
         have HF := Lib.hid (show Sx.rightXs NM (if Sx.flat kd then d else d - 1) (d - 1) x.parts = true by
          have h := HALL.out
          rwa [List.take_of_length_le (by have := HK.out; omega)] at h)
         go_wp2_with fail
         go_ret
         rw [HRX.out, HF.out, HL.out]
         exact ⟨rfl, HW.out.b⟩
theorem zcfZ : ∀ (n : Nat) (x : Sx.Ex), Sx.sizeX x ≤ n → ∀ d, d ≤ 64 → RightXOk d x
 | 0, x, h => by have := Sx.sizeX_pos x; omega
 | n + 1, x, h => fun d hd => zjsZ d hd x (fun p hp => zcfZ n p (by
   have := Sx.sizeX_mem hp
   have := Sx.sizeX_parts x
   omega))
end Go.Proofs.YtdncljdfmdgdaaaGreatDoor
