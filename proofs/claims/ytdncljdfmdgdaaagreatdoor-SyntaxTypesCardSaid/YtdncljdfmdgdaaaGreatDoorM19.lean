/-
  The walks of coilkeep.Type, Types.
-/
/-
 The walks of coilkeep.Type, Types.
 slices.Equal at texts.
 slices.Equal at bools.
 The walk of syntax.Same.
 The walks of syntax.Nodes and syntax.Depth.
 Plain laws: what text a token has, and that a cut looks no further than its token. No program in sight.
 Plain laws: what is joined is cut back; a rest behind a line's end; a token's place. No program in sight.
 Plain laws: single tokens cut from their texts. No program in sight.
-/
import Derived.Test.YtdncljdfmdgdaaaGreatDoorM14
import Derived.Test.YtdncljdfmdgdaaaGreatDoorM13
import Derived.Test.YtdncljdfmdgdaaaGreatDoorM18
import Derived.Test.YtdncljdfmdgdaaaGreatDoorM10
import Derived.Test.YtdncljdfmdgdaaaGreatDoorM8
namespace Go.Proofs.YtdncljdfmdgdaaaGreatDoor
open Go.RowKit Go.Shelf
set_option linter.unusedSimpArgs false
set_option linter.unusedVariables false
mutual
def Sx.eqT : Sx.Ty → Sx.Ty → Bool
 | .mk k n ns es ps, .mk k' n' ns' es' ps' => (k == k') && ((n == n') && (decide (ns = ns') && (decide (es = es') && Sx.eqTs ps ps')))
def Sx.eqTs : List Sx.Ty → List Sx.Ty → Bool
 | [], [] => true
 | t :: l, u :: m => Sx.eqT t u && Sx.eqTs l m
 | _, _ => false
end
mutual
theorem Sx.eqT_iff : ∀ (t u : Sx.Ty), Sx.eqT t u = true ↔ t = u
 | .mk k n ns es ps, .mk k' n' ns' es' ps' => by
  rw [Sx.eqT]
  simp [Sx.eqTs_iff ps ps']
theorem Sx.eqTs_iff : ∀ (l m : List Sx.Ty), Sx.eqTs l m = true ↔ l = m
 | [], [] => by simp [Sx.eqTs]
 | t :: l, u :: m => by
  rw [Sx.eqTs, Bool.and_eq_true, Sx.eqT_iff t u, Sx.eqTs_iff l m]
  simp
 | [], u :: m => by simp [Sx.eqTs]
 | t :: l, [] => by simp [Sx.eqTs]
end
def KTyOk (t : Sx.Ty) : Prop := ∀ (u : Sx.Ty) (v x : Value) (W : World), Sx.size t ≤ 1000000 → Sx.size u ≤ 1000000 → IsTy W v t → IsTy W x u →
 Calls Tryz.prog 30 #[v, x] W fun e W' => e = .returned (.bool (Sx.eqT t u)) ∧ Below W.heap.size W W'
def KTysOk (l : List Sx.Ty) : Prop := ∀ (m : List Sx.Ty) (v x : Value) (W : World), Sx.sizeL l ≤ 1000000 → Sx.sizeL m ≤ 1000000 → TyRow W v l → TyRow W x m →
 Calls Tryz.prog 72 #[v, x] W fun e W' => e = .returned (.bool (Sx.eqTs l m)) ∧ Below W.heap.size W W'
set_option maxRecDepth 100000 in
set_option maxHeartbeats 8000000 in
theorem zjtZ (l : List Sx.Ty) (ih : ∀ t ∈ l, KTyOk t) : KTysOk l := by
 intro m v x W hz1 hz2 hv hx
 have hl1 := Sx.length_size l
 have hl2 := Sx.length_size m
 obtain ⟨A1, c1, rfl, hca, hra⟩ := hv
 obtain ⟨A2, c2, rfl, hcb, hrb⟩ := hx
 have HV := Lib.hid (show TyRow W (.slice A1 l.length c1) l from ⟨A1, c1, rfl, hca, hra⟩)
 have HX := Lib.hid (show TyRow W (.slice A2 m.length c2) m from ⟨A2, c2, rfl, hcb, hrb⟩)
 clear hca hra hcb hrb
 obtain ⟨k, hk⟩ : ∃ k, l.length = k := ⟨_, rfl⟩
 obtain ⟨j, hj⟩ : ∃ j, m.length = j := ⟨_, rfl⟩
 rw [hk] at HV ⊢
 rw [hj] at HX ⊢
 have k0 : (0 : Int) ≤ (k : Int) := by omega
 have k1 : (k : Int) ≤ 1000000 := by omega
 have j0 : (0 : Int) ≤ (j : Int) := by omega
 have j1 : (j : Int) ≤ 1000000 := by omega
 have HK := Lib.hid hk
 have HJ := Lib.hid hj
 have HZ1 := Lib.hid hz1
 have HZ2 := Lib.hid hz2
 have HIH := Lib.hid ih
 obtain ⟨L, hL⟩ : ∃ L, W.heap.size = L := ⟨_, rfl⟩
 have HL := Lib.hid hL
 clear hk hj hl1 hl2 hz1 hz2 ih hL
 by_cases hkj : k = j
 ·subst hkj
  have HLE := Lib.hid (show m.length = k from HJ.out)
  go_enter Tryz.func72, Tryz.ntmps72
  go_wp2_with fail
  go_loopg [5] k (fun i v wr => ∃ (q : Nat), i = k - q ∧ v = .int .i64 (q : Int) ∧ q ≤ k ∧ l.take q = m.take q ∧ Below L W wr)
  case atStart => exact ⟨0, rfl, rfl, Nat.zero_le _, by simp, Below.refl _ _⟩
  case round =>
   obtain ⟨q, hi, rfl, hq, he, hb⟩ := hrel
   have HI := Lib.hid hi
   have HE := Lib.hid he
   have HB := Lib.hid hb
   have q0 : (0 : Int) ≤ (q : Int) := by omega
   have hLs : L ≤ wr.heap.size := by have := hb.size; have := HL.out; omega
   clear hi he hb
   by_cases hlt : q < k
   ·have hqi : (q : Int) < (k : Int) := by omega
    have hq1 : q < l.length := by have := HK.out; omega
    have hq2 : q < m.length := by have := HLE.out; omega
    obtain ⟨g, off, An, cn, Ae, ce, Aq, cq, rfl, hty, hc5⟩ := HV.out.spot q hq1
    obtain ⟨g2, off2, Bn, dn, Be, de, Bq, dq, rfl, hty2, hd5⟩ := HX.out.spot q hq2
    rw [HL.out] at hc5 hd5
    obtain ⟨hg, x0, x1, x2, x3, x4⟩ := hc5 wr HB.out
    obtain ⟨hg2, y0, y1, y2, y3, y4⟩ := hd5 wr HB.out
    have hts := fun h : l[q]'hq1 = m[q]'hq2 => zciZ HE.out hq1 hq2 h
    have hsm := Sx.size_mem (List.getElem_mem hq1)
    have hsm2 := Sx.size_mem (List.getElem_mem hq2)
    have hmem := List.getElem_mem hq1
    have hne : l[q]'hq1 ≠ m[q]'hq2 → Sx.eqTs l m = false := fun h => by
     cases hh : Sx.eqTs l m with
     | false => rfl
     | true => have := (Sx.eqTs_iff l m).1 hh; subst this; exact absurd rfl h
    obtain ⟨p, hp⟩ : ∃ p, l[q]'hq1 = p := ⟨_, rfl⟩
    obtain ⟨p2, hp2⟩ : ∃ p, m[q]'hq2 = p := ⟨_, rfl⟩
    rw [hp] at x0 x1 x2 x3 x4 hty hsm hmem
    rw [hp2] at y0 y1 y2 y3 y4 hty2 hsm2
    rw [hp, hp2] at hts hne
    have hbw : Below W.heap.size W wr.drew := by rw [HL.out]; exact Below.drew HB.out
    have hre := HIH.out p hmem p2 _ _ wr.drew (by have := HZ1.out; omega) (by have := HZ2.out; omega) (IsTy.below hbw _ _ hty) (IsTy.below hbw _ _ hty2)
    have HRE := Lib.hid hre
    have HTS := Lib.hid hts
    have HNE := Lib.hid hne
    clear hty hty2 hc5 hd5 hsm hsm2 hmem hp hp2 hbw hre hts hne
    go_upto_region 6 with fail
    cases hc : Sx.eqT p p2 with
    | true =>
     rw [hc] at HRE
     have HEQ := Lib.hid (HTS.out ((Sx.eqT_iff p p2).1 hc))
     clear hc
     go_region_with (go_at_call 30; refine HRE.out.mono ?_; rintro e w5 ⟨rfl, hb5⟩)
     all_goals
      have HB5 := Lib.hid ((Below.drew HB.out).trans (hb5.mono hLs))
      clear hb5
      go_wp2_with fail
      go_roundg (k - (q + 1))
      case measure => have := HI.out; omega
      case rel => exact ⟨q + 1, rfl, by simp, hlt, HEQ.out, HB5.out⟩
    | false =>
     rw [hc] at HRE
     have HF := Lib.hid (HNE.out (fun h => by have := (Sx.eqT_iff p p2).2 h; rw [hc] at this; cases this))
     clear hc
     go_region_with (go_at_call 30; refine HRE.out.mono ?_; rintro e w5 ⟨rfl, hb5⟩)
     all_goals
      have HB5 := Lib.hid ((Below.drew HB.out).trans (hb5.mono hLs))
      clear hb5
      go_wp2_with fail
      go_ret
      rw [HF.out, HL.out]
      exact ⟨rfl, HB5.out⟩
   ·have hqi : ¬ (q : Int) < (k : Int) := by omega
    have HF := Lib.hid (show Sx.eqTs l m = true by
     have h := HE.out
     rw [List.take_of_length_le (by have := HK.out; omega), List.take_of_length_le (by have := HLE.out; omega)] at h
     exact (Sx.eqTs_iff l m).2 h)
    go_wp2_with fail
    go_ret
    rw [HF.out, HL.out]
    exact ⟨rfl, HB.out⟩
 ·have hb : ((k : Int) != (j : Int)) = true := by rw [bne_iff_ne]; omega
  have HF := Lib.hid (show Sx.eqTs l m = false by
   cases hh : Sx.eqTs l m with
   | false => rfl
   | true => have := (Sx.eqTs_iff l m).1 hh; subst this; have := HK.out; have := HJ.out; omega)
  go_enter Tryz.func72, Tryz.ntmps72
  go_wp2_with fail
  go_ret
  rw [HF.out]
  exact ⟨rfl, Below.refl _ _⟩
theorem Sx.eqT_parts (t u : Sx.Ty) : Sx.eqT t u = ((t.kind == u.kind) && ((t.name == u.name) && (decide (t.names = u.names) && (decide (t.embeds = u.embeds) && Sx.eqTs t.parts u.parts)))) := by
 cases t; cases u; rw [Sx.eqT]; rfl
set_option maxRecDepth 100000 in
set_option maxHeartbeats 8000000 in
theorem zjuZ (t : Sx.Ty) (ih : KTysOk t.parts) : KTyOk t := by
 intro u v x W hz1 hz2 hv hx
 have hs1 := Sx.size_parts t
 have hs2 := Sx.size_parts u
 have hp1 := Sx.length_size t.parts
 have hp2 := Sx.length_size u.parts
 have heq := Sx.eqT_parts t u
 obtain ⟨An, cn, Ae, ce, Ap, cp, rfl, h1, h2, h3⟩ := hv.agg
 obtain ⟨Bn, dn, Be, de, Bp, dp, rfl, h4, h5, h6⟩ := hx.agg
 have hT := fun X (hX : Below W.heap.size W X) => zjhZ t.names u.names _ _ X (h1.below hX) (h4.below hX) (by omega) (by omega)
 have hB := fun X (hX : Below W.heap.size W X) => zjiZ t.embeds u.embeds _ _ X (h2.below hX) (h5.below hX) (by omega) (by omega)
 have hP := fun X (hX : Below W.heap.size W X) => ih u.parts _ _ X (by omega) (by omega) (h3.below hX) (h6.below hX)
 obtain ⟨b1, e1⟩ : ∃ b, (t.kind == u.kind) = b := ⟨_, rfl⟩
 obtain ⟨b2, e2⟩ : ∃ b, (t.name == u.name) = b := ⟨_, rfl⟩
 obtain ⟨b3, e3⟩ : ∃ b, decide (t.names = u.names) = b := ⟨_, rfl⟩
 obtain ⟨b4, e4⟩ : ∃ b, decide (t.embeds = u.embeds) = b := ⟨_, rfl⟩
 obtain ⟨b5, e5⟩ : ∃ b, Sx.eqTs t.parts u.parts = b := ⟨_, rfl⟩
 rw [e1, e2, e3, e4, e5] at heq
 rw [e3] at hT
 rw [e4] at hB
 rw [e5] at hP
 rw [heq]
 obtain ⟨kt, hkt⟩ : ∃ k, t.kind = k := ⟨_, rfl⟩
 obtain ⟨ku, hku⟩ : ∃ k, u.kind = k := ⟨_, rfl⟩
 obtain ⟨nt, hnt⟩ : ∃ k, t.name = k := ⟨_, rfl⟩
 obtain ⟨nu, hnu⟩ : ∃ k, u.name = k := ⟨_, rfl⟩
 rw [hkt, hku] at e1
 rw [hnt, hnu] at e2
 rw [hkt, hku, hnt, hnu]
 obtain ⟨L, hL⟩ : ∃ L, W.heap.size = L := ⟨_, rfl⟩
 obtain ⟨w2, hw2⟩ : ∃ w2, W.alloc (.cells #[.int .i64 kt, .string ⟨nt.toArray⟩, .slice An t.names.length cn, .slice Ae t.embeds.length ce, .slice Ap t.parts.length cp] 26) = w2 := ⟨_, rfl⟩
 obtain ⟨L5, hL5⟩ : ∃ L5, w2.heap.size = L5 := ⟨_, rfl⟩
 obtain ⟨w3, hw3⟩ : ∃ w3, w2.alloc (.cells #[.int .i64 ku, .string ⟨nu.toArray⟩, .slice Bn u.names.length dn, .slice Be u.embeds.length de, .slice Bp u.parts.length dp] 26) = w3 := ⟨_, rfl⟩
 have g2 := World.grownBy_alloc W (.cells #[.int .i64 kt, .string ⟨nt.toArray⟩, .slice An t.names.length cn, .slice Ae t.embeds.length ce, .slice Ap t.parts.length cp] 26) none
 have x2 := heap_alloc_new W (.cells #[.int .i64 kt, .string ⟨nt.toArray⟩, .slice An t.names.length cn, .slice Ae t.embeds.length ce, .slice Ap t.parts.length cp] 26)
 rw [hw2] at g2 x2
 have g3 := World.grownBy_alloc w2 (.cells #[.int .i64 ku, .string ⟨nu.toArray⟩, .slice Bn u.names.length dn, .slice Be u.embeds.length de, .slice Bp u.parts.length dp] 26) none
 have x3 := heap_alloc_new w2 (.cells #[.int .i64 ku, .string ⟨nu.toArray⟩, .slice Bn u.names.length dn, .slice Be u.embeds.length de, .slice Bp u.parts.length dp] 26)
 rw [hw3] at g3 x3
 rw [hL] at x2
 rw [hL5] at x3
 have H3 := Lib.hid (show Held2 L W #[.int .i64 kt, .string ⟨nt.toArray⟩, .slice An t.names.length cn, .slice Ae t.embeds.length ce, .slice Ap t.parts.length cp] 26 L5 #[.int .i64 ku, .string ⟨nu.toArray⟩, .slice Bn u.names.length dn, .slice Be u.embeds.length de, .slice Bp u.parts.length dp] 26 w3 from ⟨by rw [← hL]; exact (zdZ g2).trans ((zdZ g3).mono g2.size), (g3.block L (zaZ x2) (fun e => nomatch e)).trans x2, x3⟩)
 have HT := Lib.hid hT
 have HB := Lib.hid hB
 have HP := Lib.hid hP
 have HL := Lib.hid hL
 clear hT hB hP g2 g3 x2 x3 heq hs1 hs2 hp1 hp2 h1 h2 h3 h4 h5 h6 e3 e4 e5 hkt hku hnt hnu hv hx ih hz1 hz2
 have h6 := HL.out
 obtain ⟨x0, x1, x2, x3, x4⟩ := zcZ H3.out.b1
 obtain ⟨y0, y1, y2, y3, y4⟩ := zcZ H3.out.b2
 obtain ⟨l1, l2⟩ := H3.out.lt
 cases b1 with
 | false =>
  go_enter Tryz.func30, Tryz.ntmps30
  go_wp2_with fail
  go_ret
  refine ⟨by first | rfl | simp, ?_⟩
  first | exact H3.out.b | (rw [HL.out]; exact H3.out.b)
 | true =>
  obtain rfl : kt = ku := by simpa using e1
  clear e1
  cases b2 with
  | false =>
   go_enter Tryz.func30, Tryz.ntmps30
   go_wp2_with fail
   go_ret
   refine ⟨by first | rfl | simp, ?_⟩
   first | exact H3.out.b | (rw [HL.out]; exact H3.out.b)
  | true =>
   obtain rfl : nt = nu := by simpa using e2
   clear e2
   cases b3 with
   | false =>
    go_enter Tryz.func30, Tryz.ntmps30
    go_wp2_with (go_at_call 46; refine (HT.out _ (by first | exact H3.out.b | (rw [HL.out]; exact H3.out.b))).mono ?_; rintro e w4 ⟨rfl, hb4⟩; have H4 := Lib.hid (H3.out.go hb4); clear hb4; clear x0 x1 x2 x3 x4 y0 y1 y2 y3 y4 l1 l2; obtain ⟨x0, x1, x2, x3, x4⟩ := zcZ H4.out.b1; obtain ⟨y0, y1, y2, y3, y4⟩ := zcZ H4.out.b2; obtain ⟨l1, l2⟩ := H4.out.lt)
    go_ret
    refine ⟨by first | rfl | simp, ?_⟩
    first | exact H4.out.b | (rw [HL.out]; exact H4.out.b)
   | true =>
    cases b4 with
    | false =>
     go_enter Tryz.func30, Tryz.ntmps30
     go_wp2_with (first | (go_at_call 46; refine (HT.out _ (by first | exact H3.out.b | (rw [HL.out]; exact H3.out.b))).mono ?_; rintro e w4 ⟨rfl, hb4⟩; have H4 := Lib.hid (H3.out.go hb4); clear hb4; clear x0 x1 x2 x3 x4 y0 y1 y2 y3 y4 l1 l2; obtain ⟨x0, x1, x2, x3, x4⟩ := zcZ H4.out.b1; obtain ⟨y0, y1, y2, y3, y4⟩ := zcZ H4.out.b2; obtain ⟨l1, l2⟩ := H4.out.lt) | (go_at_call 71; refine (HB.out _ (by first | exact H4.out.b | (rw [HL.out]; exact H4.out.b))).mono ?_; rintro e w5 ⟨rfl, hb5⟩; have H5 := Lib.hid (H4.out.go hb5); clear hb5; clear x0 x1 x2 x3 x4 y0 y1 y2 y3 y4 l1 l2; obtain ⟨x0, x1, x2, x3, x4⟩ := zcZ H5.out.b1; obtain ⟨y0, y1, y2, y3, y4⟩ := zcZ H5.out.b2; obtain ⟨l1, l2⟩ := H5.out.lt))
     go_ret
     refine ⟨by first | rfl | simp, ?_⟩
     first | exact H5.out.b | (rw [HL.out]; exact H5.out.b)
    | true =>
     cases b5 with
     | false =>
      go_enter Tryz.func30, Tryz.ntmps30
      go_wp2_with (first | (go_at_call 46; refine (HT.out _ (by first | exact H3.out.b | (rw [HL.out]; exact H3.out.b))).mono ?_; rintro e w4 ⟨rfl, hb4⟩; have H4 := Lib.hid (H3.out.go hb4); clear hb4; clear x0 x1 x2 x3 x4 y0 y1 y2 y3 y4 l1 l2; obtain ⟨x0, x1, x2, x3, x4⟩ := zcZ H4.out.b1; obtain ⟨y0, y1, y2, y3, y4⟩ := zcZ H4.out.b2; obtain ⟨l1, l2⟩ := H4.out.lt) | (go_at_call 71; refine (HB.out _ (by first | exact H4.out.b | (rw [HL.out]; exact H4.out.b))).mono ?_; rintro e w5 ⟨rfl, hb5⟩; have H5 := Lib.hid (H4.out.go hb5); clear hb5; clear x0 x1 x2 x3 x4 y0 y1 y2 y3 y4 l1 l2; obtain ⟨x0, x1, x2, x3, x4⟩ := zcZ H5.out.b1; obtain ⟨y0, y1, y2, y3, y4⟩ := zcZ H5.out.b2; obtain ⟨l1, l2⟩ := H5.out.lt) | (go_at_call 72; refine (HP.out _ (by first | exact H5.out.b | (rw [HL.out]; exact H5.out.b))).mono ?_; rintro e w6 ⟨rfl, hb6⟩; have H6 := Lib.hid (H5.out.go hb6); clear hb6; clear x0 x1 x2 x3 x4 y0 y1 y2 y3 y4 l1 l2; obtain ⟨x0, x1, x2, x3, x4⟩ := zcZ H6.out.b1; obtain ⟨y0, y1, y2, y3, y4⟩ := zcZ H6.out.b2; obtain ⟨l1, l2⟩ := H6.out.lt))
      go_ret
      refine ⟨by first | rfl | simp, ?_⟩
      first | exact H6.out.b | (rw [HL.out]; exact H6.out.b)
     | true =>
      go_enter Tryz.func30, Tryz.ntmps30
      go_wp2_with (first | (go_at_call 46; refine (HT.out _ (by first | exact H3.out.b | (rw [HL.out]; exact H3.out.b))).mono ?_; rintro e w4 ⟨rfl, hb4⟩; have H4 := Lib.hid (H3.out.go hb4); clear hb4; clear x0 x1 x2 x3 x4 y0 y1 y2 y3 y4 l1 l2; obtain ⟨x0, x1, x2, x3, x4⟩ := zcZ H4.out.b1; obtain ⟨y0, y1, y2, y3, y4⟩ := zcZ H4.out.b2; obtain ⟨l1, l2⟩ := H4.out.lt) | (go_at_call 71; refine (HB.out _ (by first | exact H4.out.b | (rw [HL.out]; exact H4.out.b))).mono ?_; rintro e w5 ⟨rfl, hb5⟩; have H5 := Lib.hid (H4.out.go hb5); clear hb5; clear x0 x1 x2 x3 x4 y0 y1 y2 y3 y4 l1 l2; obtain ⟨x0, x1, x2, x3, x4⟩ := zcZ H5.out.b1; obtain ⟨y0, y1, y2, y3, y4⟩ := zcZ H5.out.b2; obtain ⟨l1, l2⟩ := H5.out.lt) | (go_at_call 72; refine (HP.out _ (by first | exact H5.out.b | (rw [HL.out]; exact H5.out.b))).mono ?_; rintro e w6 ⟨rfl, hb6⟩; have H6 := Lib.hid (H5.out.go hb6); clear hb6; clear x0 x1 x2 x3 x4 y0 y1 y2 y3 y4 l1 l2; obtain ⟨x0, x1, x2, x3, x4⟩ := zcZ H6.out.b1; obtain ⟨y0, y1, y2, y3, y4⟩ := zcZ H6.out.b2; obtain ⟨l1, l2⟩ := H6.out.lt))
      go_ret
      refine ⟨by first | rfl | simp, ?_⟩
      first | exact H6.out.b | (rw [HL.out]; exact H6.out.b)
theorem zebZ : ∀ (n : Nat) (t : Sx.Ty), Sx.size t ≤ n → KTyOk t
 | 0, t, h => by have := Sx.size_pos t; omega
 | n + 1, t, h => zjuZ t (zjtZ t.parts fun p hp => zebZ n p (by
   have := Sx.size_mem hp
   have := Sx.size_parts t
   omega))
end Go.Proofs.YtdncljdfmdgdaaaGreatDoor
namespace Go.Proofs.YtdncljdfmdgdaaaGreatDoor
open Go.RowKit Go.Shelf
set_option linter.unusedSimpArgs false
set_option linter.unusedVariables false
end Go.Proofs.YtdncljdfmdgdaaaGreatDoor
namespace Go.Proofs.YtdncljdfmdgdaaaGreatDoor
open Go.RowKit Go.Shelf
set_option linter.unusedSimpArgs false
set_option linter.unusedVariables false
end Go.Proofs.YtdncljdfmdgdaaaGreatDoor
namespace Go.Proofs.YtdncljdfmdgdaaaGreatDoor
open Go.RowKit Go.Shelf
set_option linter.unusedSimpArgs false
set_option linter.unusedVariables false
end Go.Proofs.YtdncljdfmdgdaaaGreatDoor
namespace Go.Proofs.YtdncljdfmdgdaaaGreatDoor
open Go.RowKit
set_option linter.unusedSimpArgs false
set_option linter.unusedVariables false
set_option maxRecDepth 100000 in
set_option maxHeartbeats 4000000 in
theorem zekZ : ∀ (n : Nat) (l : List Sx.Ty) (v : Value) (W : World), Sx.sizeL l ≤ n → n ≤ 1000000 → TyRow W v l →
  Calls Tryz.prog 15 #[v] W fun e W' => e = .returned (.int .i64 (Sx.nodesL l : Nat)) ∧ Below W.heap.size W W' := by
 intro n
 induction n using Nat.strongRecOn with
 | _ n ih =>
  intro l v W hn hn1 hv
  obtain ⟨A, c, rfl, hcap, hl⟩ := hv
  have hlen := Sx.length_size l
  have hnl := Sx.nodesL_size l
  have hli : (l.length : Int) ≤ 1000000 := by omega
  have HL := Lib.hid hl
  have HIH := Lib.hid ih
  clear ih hl
  go_enter Tryz.func15, Tryz.ntmps15
  go_wp2_with fail
  go_loopg [3, 8] (l.length) (fun i u v wr => ∃ (m k : Nat), i = l.length - m ∧ v = .int .i64 (m : Int) ∧ u = .int .i64 (k : Int) ∧ k = Sx.nodesL (l.take m) ∧ m ≤ l.length ∧ Below W.heap.size W wr)
  case atStart => exact ⟨0, 0, rfl, rfl, rfl, rfl, Nat.zero_le _, Below.refl _ _⟩
  case round =>
   obtain ⟨m, k, hi, rfl, rfl, hk, hm, hb⟩ := hrel
   have HI := Lib.hid hi
   have HK := Lib.hid hk
   have HB := Lib.hid hb
   have m0 : (0 : Int) ≤ (m : Int) := by omega
   have k0 : (0 : Int) ≤ (k : Int) := by omega
   have hkb : k ≤ 1000000 := by have := Sx.nodesL_take_le l m; omega
   have hki : (k : Int) ≤ 1000000 := by omega
   clear hi hk hb
   by_cases hlt : m < l.length
   ·have hmi : (m : Int) < (l.length : Int) := by omega
    obtain ⟨g, off, v0, v1, v2, v3, v4, rfl, c0, c1, c2, c3, c4, ht⟩ := IsTys.at (IsTys.below HB.out l _ 0 HL.out) m hlt
    obtain ⟨t, hte⟩ : ∃ t, l[m]'hlt = t := ⟨_, rfl⟩
    have hmem : t ∈ l := by rw [← hte]; exact List.getElem_mem hlt
    rw [hte] at ht
    have HSZ := Lib.hid (Sx.parts_mem hmem)
    have HSM := Lib.hid (Sx.size_mem hmem)
    have HT := Lib.hid (Sx.nodes_take hlt)
    have HTE := Lib.hid hte
    obtain ⟨vn, ve, vp, hagg, hsn, hse, hsp⟩ := ht.limbs
    obtain ⟨An, cn, hvn, -⟩ := id hsn
    obtain ⟨Ae, ce, hve, -⟩ := id hse
    obtain ⟨Ap, cp, hvp, -, -⟩ := id hsp
    subst hvn hve hvp
    injection hagg with hagg
    simp only [Array.mk.injEq, List.cons.injEq, and_true] at hagg
    obtain ⟨rfl, rfl, rfl, rfl, rfl⟩ := hagg
    rw [Nat.zero_add] at c0 c1 c2 c3 c4
    have hgl := World.block_lt_of_cell? wr ⟨g, _, none⟩ c0
    simp only at hgl
    have HP := Lib.hid hsp
    have hnp := Sx.nodesL_size t.parts
    obtain ⟨np, hnpe⟩ : ∃ np, Sx.nodesL t.parts = np := ⟨_, rfl⟩
    have hnpi : (np : Int) ≤ 1000000 := by have := HSZ.out; omega
    have hnp0 : (0 : Int) ≤ (np : Int) := by omega
    have hnt := Sx.nodes_parts t
    have HNT := Lib.hid hnt
    have HNP := Lib.hid hnpe
    have hrec : ∀ X, Below wr.heap.size wr X → Calls Tryz.prog 15 #[.slice Ap t.parts.length cp] X fun e X' => e = .returned (.int .i64 (np : Int)) ∧ Below X.heap.size X X' := by
     intro X hX
     have := HIH.out (Sx.sizeL t.parts) (by have := HSZ.out; omega) t.parts _ X (Nat.le_refl _) (by have := HSZ.out; omega) (HP.out.below hX)
     rw [HNP.out] at this
     exact this
    have HREC := Lib.hid hrec
    obtain ⟨kd, hkd⟩ : ∃ kd, t.kind = kd := ⟨_, rfl⟩
    have HKD := Lib.hid hkd
    rw [hkd] at c0
    clear hsn hse hsp ht hnp hnpe hnt hrec hkd hte
    have hbx : Below wr.heap.size wr (wr.alloc (.cells #[.int .i64 kd, .string ⟨t.name.toArray⟩, .slice An t.names.length cn, .slice Ae t.embeds.length ce, .slice Ap t.parts.length cp] 26)) := zdZ (World.grownBy_alloc _ _ _)
    have hrc := HREC.out _ hbx
    by_cases h4 : kd = 4
    ·have h4b : (kd != 4) = false := by simp [h4]
     have H4 := Lib.hid h4
     clear h4
     go_wp2_with (go_at_call 15; refine hrc.mono ?_; clear hrc; rintro e W5 ⟨rfl, hb5⟩)
     go_roundg (l.length - (m + 1))
     case measure => have := HI.out; omega
     case rel =>
      refine ⟨m + 1, k + np, rfl, by simp, by simp, ?_, hlt, (HB.out.trans (hbx.mono HB.out.size)).trans (hb5.mono (Nat.le_trans HB.out.size hbx.size))⟩
      rw [HT.out, HTE.out, HNT.out, HKD.out, H4.out, HNP.out, ← HK.out]
      simp
    ·have h4b : (kd != 4) = true := by simp [h4]
     have H4 := Lib.hid h4
     clear h4
     go_wp2_with (go_at_call 15; refine hrc.mono ?_; clear hrc; rintro e W5 ⟨rfl, hb5⟩)
     go_roundg (l.length - (m + 1))
     case measure => have := HI.out; omega
     case rel =>
      refine ⟨m + 1, k + 1 + np, rfl, by simp, by simp, ?_, hlt, (HB.out.trans (hbx.mono HB.out.size)).trans (hb5.mono (Nat.le_trans HB.out.size hbx.size))⟩
      rw [HT.out, HTE.out, HNT.out, HKD.out, if_neg H4.out, HNP.out, ← HK.out]
      omega
   ·have hmi : ¬ (m : Int) < (l.length : Int) := by omega
    go_wp2_with fail
    go_ret
    refine ⟨?_, HB.out⟩
    rw [HK.out, List.take_of_length_le (by omega)]
    rfl
set_option maxRecDepth 100000 in
set_option maxHeartbeats 4000000 in
theorem zhdZ : ∀ (n : Nat) (l : List Sx.Ty) (v : Value) (W : World), Sx.sizeL l ≤ n → n ≤ 1000000 → TyRow W v l →
  Calls Tryz.prog 18 #[v] W fun e W' => e = .returned (.int .i64 (Sx.depthL l : Nat)) ∧ Below W.heap.size W W' := by
 intro n
 induction n using Nat.strongRecOn with
 | _ n ih =>
  intro l v W hn hn1 hv
  obtain ⟨A, c, rfl, hcap, hl⟩ := hv
  have hlen := Sx.length_size l
  have hnl := Sx.depthL_size l
  have hli : (l.length : Int) ≤ 1000000 := by omega
  have HL := Lib.hid hl
  have HIH := Lib.hid ih
  clear ih hl
  go_enter Tryz.func18, Tryz.ntmps18
  go_wp2_with fail
  go_loopg [3, 8] (l.length) (fun i u v wr => ∃ (m k : Nat), i = l.length - m ∧ v = .int .i64 (m : Int) ∧ u = .int .i64 (k : Int) ∧ k = Sx.depthL (l.take m) ∧ m ≤ l.length ∧ Below W.heap.size W wr)
  case atStart => exact ⟨0, 0, rfl, rfl, rfl, rfl, Nat.zero_le _, Below.refl _ _⟩
  case round =>
   obtain ⟨m, k, hi, rfl, rfl, hk, hm, hb⟩ := hrel
   have HI := Lib.hid hi
   have HK := Lib.hid hk
   have HB := Lib.hid hb
   have m0 : (0 : Int) ≤ (m : Int) := by omega
   have k0 : (0 : Int) ≤ (k : Int) := by omega
   have hkb : k ≤ 1000000 := by have := Sx.depthL_take_le l m; omega
   have hki : (k : Int) ≤ 1000000 := by omega
   clear hi hk hb
   by_cases hlt : m < l.length
   ·have hmi : (m : Int) < (l.length : Int) := by omega
    obtain ⟨g, off, v0, v1, v2, v3, v4, rfl, c0, c1, c2, c3, c4, ht⟩ := IsTys.at (IsTys.below HB.out l _ 0 HL.out) m hlt
    obtain ⟨t, hte⟩ : ∃ t, l[m]'hlt = t := ⟨_, rfl⟩
    have hmem : t ∈ l := by rw [← hte]; exact List.getElem_mem hlt
    rw [hte] at ht
    have HSZ := Lib.hid (Sx.parts_mem hmem)
    have HSM := Lib.hid (Sx.size_mem hmem)
    have HT := Lib.hid (Sx.depth_take hlt)
    have HTE := Lib.hid hte
    obtain ⟨vn, ve, vp, hagg, hsn, hse, hsp⟩ := ht.limbs
    obtain ⟨An, cn, hvn, -⟩ := id hsn
    obtain ⟨Ae, ce, hve, -⟩ := id hse
    obtain ⟨Ap, cp, hvp, -, -⟩ := id hsp
    subst hvn hve hvp
    injection hagg with hagg
    simp only [Array.mk.injEq, List.cons.injEq, and_true] at hagg
    obtain ⟨rfl, rfl, rfl, rfl, rfl⟩ := hagg
    rw [Nat.zero_add] at c0 c1 c2 c3 c4
    have hgl := World.block_lt_of_cell? wr ⟨g, _, none⟩ c0
    simp only at hgl
    have HP := Lib.hid hsp
    have hnp := Sx.depthL_size t.parts
    obtain ⟨np, hnpe⟩ : ∃ np, Sx.depthL t.parts = np := ⟨_, rfl⟩
    have hnpi : (np : Int) ≤ 1000000 := by have := HSZ.out; omega
    have hnp0 : (0 : Int) ≤ (np : Int) := by omega
    have hnt := Sx.depth_parts t
    have HNT := Lib.hid hnt
    have HNP := Lib.hid hnpe
    have hrec : ∀ X, Below wr.heap.size wr X → Calls Tryz.prog 18 #[.slice Ap t.parts.length cp] X fun e X' => e = .returned (.int .i64 (np : Int)) ∧ Below X.heap.size X X' := by
     intro X hX
     have := HIH.out (Sx.sizeL t.parts) (by have := HSZ.out; omega) t.parts _ X (Nat.le_refl _) (by have := HSZ.out; omega) (HP.out.below hX)
     rw [HNP.out] at this
     exact this
    have HREC := Lib.hid hrec
    obtain ⟨kd, hkd⟩ : ∃ kd, t.kind = kd := ⟨_, rfl⟩
    have HKD := Lib.hid hkd
    rw [hkd] at c0
    clear hsn hse hsp ht hnp hnpe hnt hrec hkd hte
    have hbx : Below wr.heap.size wr (wr.alloc (.cells #[.int .i64 kd, .string ⟨t.name.toArray⟩, .slice An t.names.length cn, .slice Ae t.embeds.length ce, .slice Ap t.parts.length cp] 26)) := zdZ (World.grownBy_alloc _ _ _)
    have hrc := HREC.out _ hbx
    have hmx : max (k : Int) (1 + (np : Int)) = ((max k (1 + np) : Nat) : Int) := by omega
    have HMX := Lib.hid hmx
    clear hmx
    go_wp2_with (go_at_call 18; refine hrc.mono ?_; clear hrc; rintro e W5 ⟨rfl, hb5⟩)
    go_roundg (l.length - (m + 1))
    case measure => have := HI.out; omega
    case rel =>
     refine ⟨m + 1, max k (1 + np), rfl, by simp, ?_, ?_, hlt, (HB.out.trans (hbx.mono HB.out.size)).trans (hb5.mono (Nat.le_trans HB.out.size hbx.size))⟩
     ·rw [HMX.out]
     ·rw [HT.out, HTE.out, HNT.out, HNP.out, ← HK.out]
   ·have hmi : ¬ (m : Int) < (l.length : Int) := by omega
    go_wp2_with fail
    go_ret
    refine ⟨?_, HB.out⟩
    rw [HK.out, List.take_of_length_le (by omega)]
    rfl
end Go.Proofs.YtdncljdfmdgdaaaGreatDoor
namespace Go.Proofs.YtdncljdfmdgdaaaGreatDoor.Lx
open Go
set_option linter.unusedSimpArgs false
/-! ### quoted, case by case -/
theorem zvZ (p : Nat) (c : UInt8) (t acc : Bytes) (k : Nat) : quoted p (92 :: c :: t) acc k = (if c.toNat == 110 then quoted p t (acc ++ [10]) (k + 2) else if c.toNat == 34 || c.toNat == 92 then quoted p t (acc ++ [c]) (k + 2) else .bad 12 (p + k + 1)) := rfl
theorem zcnZ (p : Nat) (c : UInt8) (t acc : Bytes) (k : Nat) (e34 : c ≠ 34) (e92 : c ≠ 92) : quoted p (c :: t) acc k = (if c.toNat < 32 || 126 < c.toNat then Res.bad 12 (p + k) else quoted p t (acc ++ [c]) (k + 1)) := by
 rw [quoted.eq_def]
 split
 ·cases ‹_ :: _ = []›
 ·rename_i h1; injection h1 with h1 h2; exact absurd h1 e34
 ·rename_i h1; injection h1 with h1 h2; exact absurd h1 e92
 ·rename_i h1; injection h1 with h1 h2; exact absurd h1 e92
 ·rename_i h1; injection h1 with h1 h2; subst h1; subst h2; rfl
def saidB (c : UInt8) : Bool := c.toNat == 10 || (decide (32 ≤ c.toNat) && decide (c.toNat ≤ 126))
theorem quoteIn_cons' (c : UInt8) (t : Bytes) : quoteIn (c :: t) = (if c.toNat == 10 then [92, 110] else if c.toNat == 34 || c.toNat == 92 then [92, c] else [c]) ++ quoteIn t := rfl
theorem u8ne {c : UInt8} {d : UInt8} : (c.toNat == d.toNat) = (c == d) := by
 rw [Bool.eq_iff_iff]; simp [UInt8.toNat_inj]
theorem zbpZ (p : Nat) (t : Tok) (n : Nat) : ∀ (m : Nat) (l acc : Bytes) (k : Nat), l.length ≤ m → quoted p l acc k = .ok t n →
  ∃ u x, l = quoteIn u ++ 34 :: x ∧ (∀ c ∈ u, saidB c = true) ∧ t = ⟨p, 5, acc ++ u, 0⟩ ∧ n = k + (quoteIn u).length + 1
 | m, [], acc, k, hm, h => by simp [quoted] at h
 | 0, c :: t', acc, k, hm, h => by simp at hm
 | m + 1, c :: t', acc, k, hm, h => by
  have hm' : t'.length ≤ m := by simpa using hm
  by_cases e34 : c = 34
  ·subst e34
   simp [quoted] at h
   exact ⟨[], t', by simp [quoteIn], by simp, by simp [h.1], by simp [quoteIn, h.2]⟩
  ·by_cases e92 : c = 92
   ·subst e92
    cases t' with
    | nil => simp [quoted] at h
    | cons d t'' =>
     have hm2 : t''.length ≤ m := by simp at hm'; omega
     rw [zvZ] at h
     split at h
     ·rename_i hd
      obtain ⟨u, x, e1, e2, e3, e4⟩ := zbpZ p t n m t'' _ _ hm2 h
      have hd' : d = 110 := UInt8.toNat_inj.1 (by simpa using hd)
      subst hd'
      refine ⟨10 :: u, x, ?_, ?_, ?_, ?_⟩
      ·rw [quoteIn_cons', e1]; simp
      ·intro c hc
       rcases List.mem_cons.1 hc with rfl | hc
       ·rfl
       ·exact e2 c hc
      ·rw [e3]; simp
      ·rw [quoteIn_cons', e4]; simp; omega
     ·split at h
      ·rename_i hn hd
       obtain ⟨u, x, e1, e2, e3, e4⟩ := zbpZ p t n m t'' _ _ hm2 h
       have h10 : (d.toNat == 10) = false := by
        simp only [Bool.or_eq_true, beq_iff_eq] at hd
        simp
        omega
       refine ⟨d :: u, x, ?_, ?_, ?_, ?_⟩
       ·rw [quoteIn_cons', e1, h10, hd]; simp
       ·intro c hc
        rcases List.mem_cons.1 hc with rfl | hc
        ·simp only [Bool.or_eq_true, beq_iff_eq] at hd
         unfold saidB
         rcases hd with hd | hd <;> rw [hd] <;> rfl
        ·exact e2 c hc
       ·rw [e3]; simp
       ·rw [quoteIn_cons', e4, h10, hd]; simp; omega
      ·cases h
   ·rw [zcnZ p c t' acc k e34 e92] at h
    split at h
    ·cases h
    ·rename_i hc0
     obtain ⟨u, x, e1, e2, e3, e4⟩ := zbpZ p t n m t' _ _ hm' h
     have h34 : (c.toNat == 34) = false := by
      have := @u8ne c 34
      rw [show (34 : UInt8).toNat = 34 from rfl] at this
      rw [this]; simpa using e34
     have h92 : (c.toNat == 92) = false := by
      have := @u8ne c 92
      rw [show (92 : UInt8).toNat = 92 from rfl] at this
      rw [this]; simpa using e92
     have hr : 32 ≤ c.toNat ∧ c.toNat ≤ 126 := by
      simp only [Bool.or_eq_true, decide_eq_true_eq] at hc0
      omega
     have h10 : (c.toNat == 10) = false := by simp; omega
     refine ⟨c :: u, x, ?_, ?_, ?_, ?_⟩
     ·rw [quoteIn_cons', e1, h10, h34, h92]; simp
     ·intro d hd
      rcases List.mem_cons.1 hd with rfl | hd
      ·unfold saidB; simp [hr]
      ·exact e2 d hd
     ·rw [e3]; simp
     ·rw [quoteIn_cons', e4, h10, h34, h92]; simp; omega
theorem zbqZ (p : Nat) (x : Bytes) : ∀ (u acc : Bytes) (k : Nat), (∀ c ∈ u, saidB c = true) → quoted p (quoteIn u ++ 34 :: x) acc k = .ok ⟨p, 5, acc ++ u, 0⟩ (k + (quoteIn u).length + 1)
 | [], acc, k, _ => by simp [quoteIn, quoted]
 | c :: u, acc, k, h => by
  have hc := h c (List.mem_cons_self ..)
  have hu : ∀ c ∈ u, saidB c = true := fun d hd => h d (List.mem_cons_of_mem _ hd)
  rw [quoteIn_cons']
  by_cases h10 : (c.toNat == 10) = true
  ·have hc' : c = 10 := UInt8.toNat_inj.1 (by simpa using h10)
   subst hc'
   show quoted p (92 :: 110 :: (quoteIn u ++ 34 :: x)) acc k = _
   rw [zvZ, if_pos (by rfl), zbqZ p x u _ _ hu]
   congr 1
   ·simp
   ·simp; omega
  ·rw [if_neg h10]
   by_cases hq : (c.toNat == 34 || c.toNat == 92) = true
   ·rw [if_pos hq]
    show quoted p (92 :: c :: (quoteIn u ++ 34 :: x)) acc k = _
    have hn : ¬ (c.toNat == 110) = true := by
     simp only [Bool.or_eq_true, beq_iff_eq] at hq ⊢
     omega
    rw [zvZ, if_neg hn, if_pos hq, zbqZ p x u _ _ hu]
    congr 1
    ·simp
    ·simp; omega
   ·rw [if_neg hq]
    have e34 : c ≠ 34 := by rintro rfl; exact hq rfl
    have e92 : c ≠ 92 := by rintro rfl; exact hq rfl
    show quoted p (c :: (quoteIn u ++ 34 :: x)) acc k = _
    have hr : ¬ (decide (c.toNat < 32) || decide (126 < c.toNat)) = true := by
     unfold saidB at hc
     simp only [Bool.or_eq_true, Bool.and_eq_true, decide_eq_true_eq] at hc ⊢
     rcases hc with hc | hc
     ·exact absurd hc h10
     ·omega
    rw [zcnZ p c _ acc k e34 e92, if_neg hr, zbqZ p x u _ _ hu]
    congr 1
    ·simp
    ·simp; omega
/-! ### a token's text -/
def Tok.bare (t : Tok) : Tok := { t with pos := 0 }
inductive Form : Bytes → Tok → Prop
 | name (c : UInt8) (s : Bytes) (hc : letter c = true) (hs : ∀ d ∈ c :: s, within d = true) (hl : (c :: s).length ≤ 32) : Form (c :: s) ⟨0, nameKind (c :: s), c :: s, 0⟩
 | number (c : UInt8) (s : Bytes) (hs : ∀ d ∈ c :: s, digit d = true) (hv : value (c :: s) ≤ 9223372036854775807) (hz : c = 48 → s = []) : Form (c :: s) ⟨0, 4, [], value (c :: s)⟩
 | text (u : Bytes) (hu : ∀ c ∈ u, saidB c = true) : Form (quote u) ⟨0, 5, u, 0⟩
 | two : Form [61, 61] ⟨0, 6, [61, 61], 0⟩
 | sign (c : UInt8) (hc : signs.contains c = true) : Form [c] ⟨0, 6, [c], 0⟩
def Sep (x : Bytes) : Prop := ∀ c, x.head? = some c → within c = false ∧ c ≠ 61
def After (s x : Bytes) (t : Tok) : Prop := (t.kind ≠ 5 → t.kind ≠ 6 → ∀ c, x.head? = some c → within c = false) ∧ (s = [61] → x.head? ≠ some 61)
theorem Sep.after {x : Bytes} (h : Sep x) (s : Bytes) (t : Tok) : After s x t := ⟨fun _ _ c hc => (h c hc).1, fun _ hc => (h 61 hc).2 rfl⟩
theorem sep_nil : Sep [] := fun c h => by cases h
theorem zbyZ (f : UInt8 → Bool) : ∀ (s x : Bytes), (∀ c ∈ s, f c = true) → (∀ c, x.head? = some c → f c = false) → (s ++ x).takeWhile f = s
 | [], x, _, h => by
  cases x with
  | nil => rfl
  | cons c x => simp [List.takeWhile_cons, h c rfl]
 | a :: s, x, hs, h => by
  simp [List.takeWhile_cons, hs a (List.mem_cons_self ..), zbyZ f s x (fun c hc => hs c (List.mem_cons_of_mem _ hc)) h]
theorem zbhZ (f : UInt8 → Bool) : ∀ (l : Bytes), ∃ x, l = l.takeWhile f ++ x ∧ (∀ c ∈ l.takeWhile f, f c = true) ∧ (∀ c, x.head? = some c → f c = false)
 | [] => ⟨[], rfl, by simp, by simp⟩
 | a :: l => by
  by_cases ha : f a = true
  ·obtain ⟨x, e1, e2, e3⟩ := zbhZ f l
   refine ⟨x, ?_, ?_, e3⟩
   ·rw [List.takeWhile_cons, if_pos ha, List.cons_append, ← e1]
   ·rw [List.takeWhile_cons, if_pos ha]
    intro c hc
    rcases List.mem_cons.1 hc with rfl | hc
    ·exact ha
    ·exact e2 c hc
  ·refine ⟨a :: l, by rw [List.takeWhile_cons, if_neg ha]; rfl, by rw [List.takeWhile_cons, if_neg ha]; simp, ?_⟩
   intro c hc
   injection hc with hc
   subst hc
   simpa using ha
theorem zgeZ {c : UInt8} (h : letter c = true) : within c = true := by simp [within, h]
theorem zelZ {c : UInt8} (h : letter c = true) : digit c = false := by
 simp only [letter, small, great, digit, Bool.or_eq_true, Bool.and_eq_true, decide_eq_true_eq] at *
 simp
 omega
theorem zemZ {c : UInt8} (h : digit c = true) : letter c = false := by
 rw [← Bool.not_eq_true]
 intro h'
 rw [zelZ h'] at h
 cases h
theorem zcvZ {c : UInt8} (h : signs.contains c = true) : letter c = false ∧ digit c = false ∧ (c.toNat == 34) = false ∧ c ≠ 47 ∧ blank c = false := by
 have : c = 40 ∨ c = 41 ∨ c = 123 ∨ c = 125 ∨ c = 59 ∨ c = 58 ∨ c = 44 ∨ c = 46 ∨ c = 61 ∨ c = 60 ∨ c = 43 ∨ c = 45 ∨ c = 42 := by simpa [signs] using h
 rcases this with rfl | rfl | rfl | rfl | rfl | rfl | rfl | rfl | rfl | rfl | rfl | rfl | rfl <;> decide
theorem zheZ {s x : Bytes} {t : Tok} (h : Form s t) (ha : After s x t) (p : Nat) : cut p (s ++ x) = .ok { t with pos := p } s.length := by
 cases h with
 | name c s hc hs hl =>
  have hk : nameKind (c :: s) ≠ 5 ∧ nameKind (c :: s) ≠ 6 := by
   unfold nameKind
   split
   ·decide
   ·split <;> decide
  have ht := zbyZ within (c :: s) x hs (ha.1 (by have := hk.1; show ((nameKind (c :: s) : Nat) : Int) ≠ 5; omega) (by have := hk.2; show ((nameKind (c :: s) : Nat) : Int) ≠ 6; omega))
  show cut p (c :: (s ++ x)) = _
  simp only [cut, hc, if_true, cutName]
  rw [show c :: (s ++ x) = (c :: s) ++ x from rfl, ht]
  rw [if_neg (by omega)]
 | number c s hs hv hz =>
  have hd := hs c (List.mem_cons_self ..)
  have hx := ha.1 (by simp) (by simp)
  have ht := zbyZ digit (c :: s) x hs (fun d hd' => by
   have := hx d hd'
   simp only [within, Bool.or_eq_false_iff] at this
   exact this.1.2)
  show cut p (c :: (s ++ x)) = _
  simp only [cut, zemZ hd, hd, if_true, cutNumber, Bool.false_eq_true, if_false]
  rw [show c :: (s ++ x) = (c :: s) ++ x from rfl, ht]
  rw [if_neg]
  simp only [List.drop_left, Bool.or_eq_true, not_or, Bool.and_eq_true, decide_eq_true_eq]
  refine ⟨⟨by omega, ?_⟩, ?_⟩
  ·rintro ⟨h1, h2⟩
   have : c = 48 := by simpa using h1
   rw [hz this] at h2
   simp at h2
  ·cases hx' : x.head? with
   | none => simp
   | some d => simp [hx d hx']
 | text u hu =>
  show cut p (34 :: (quoteIn u ++ [34] ++ x)) = _
  have : cut p (34 :: (quoteIn u ++ [34] ++ x)) = quoted p (quoteIn u ++ [34] ++ x) [] 1 := rfl
  rw [this, show quoteIn u ++ [34] ++ x = quoteIn u ++ 34 :: x by simp, zbqZ p x u [] 1 hu]
  simp [quote]
  omega
 | two => rfl
 | sign c hc =>
  obtain ⟨h1, h2, h3, -⟩ := zcvZ hc
  show cut p (c :: x) = _
  simp only [cut, h1, h2, h3, Bool.false_eq_true, if_false]
  rw [if_neg]
  ·rfl
  ·simp only [Bool.and_eq_true, beq_iff_eq, not_and]
   intro h61
   have : c = 61 := UInt8.toNat_inj.1 h61
   subst this
   exact ha.2 rfl
theorem zhfZ {p : Nat} {l : Bytes} {t : Tok} {n : Nat} (hb : ∀ c, l.head? = some c → begins c = true) (h : cut p l = .ok t n) :
  ∃ s x, l = s ++ x ∧ s.length = n ∧ Form s t.bare ∧ After s x t.bare ∧ t = { t.bare with pos := p } := by
 cases l with
 | nil => simp [cut] at h
 | cons b l =>
  have hb0 := hb b rfl
  simp only [cut] at h
  split at h
  ·rename_i hl
   unfold cutName at h
   simp only at h
   obtain ⟨x, e1, e2, e3⟩ := zbhZ within (b :: l)
   have hcons : (b :: l).takeWhile within = b :: l.takeWhile within := by rw [List.takeWhile_cons, if_pos (zgeZ hl)]
   rw [hcons] at e1 e2 h
   split at h
   ·cases h
   ·rename_i hle
    injection h with h1 h2
    subst h1
    exact ⟨_, x, e1, h2, .name b _ hl e2 (by omega), ⟨fun _ _ => e3, fun h61 hx => by
     injection h61 with h61 _
     subst h61
     cases hl⟩, rfl⟩
  ·rename_i hl
   split at h
   ·rename_i hd
    unfold cutNumber at h
    simp only at h
    obtain ⟨x, e1, e2, e3⟩ := zbhZ digit (b :: l)
    have hcons : (b :: l).takeWhile digit = b :: l.takeWhile digit := by rw [List.takeWhile_cons, if_pos hd]
    rw [hcons] at e1 e2 h
    split at h
    ·cases h
    ·rename_i hno
     injection h with h1 h2
     subst h1
     simp only [Bool.or_eq_true, not_or, Bool.and_eq_true, decide_eq_true_eq] at hno
     obtain ⟨⟨hv, hz⟩, hw⟩ := hno
     have hdrop : (b :: l).drop (b :: l.takeWhile digit).length = x := by
      conv => lhs; rw [e1]
      rw [List.drop_left]
     rw [hdrop] at hw
     refine ⟨_, x, e1, h2, .number b _ e2 (by omega) ?_, ⟨fun _ _ c hc => ?_, fun h61 hx => ?_⟩, rfl⟩
     ·intro h48
      subst h48
      cases hts : l.takeWhile digit with
      | nil => rfl
      | cons => exact absurd ⟨rfl, by rw [hts]; simp⟩ hz
     ·rw [hc] at hw
      simpa using hw
     ·injection h61 with h61 _
      subst h61
      cases hd
   ·rename_i hd
    split at h
    ·rename_i h34
     have hb34 : b = 34 := UInt8.toNat_inj.1 (by simpa using h34)
     subst hb34
     obtain ⟨u, x, e1, e2, e3, e4⟩ := zbpZ p t n _ l [] 1 (Nat.le_refl _) h
     refine ⟨quote u, x, ?_, ?_, ?_, ?_, ?_⟩
     ·rw [e1]; simp [quote]
     ·rw [e4]; simp [quote]; omega
     ·rw [e3]; exact .text u e2
     ·refine ⟨fun h5 => absurd (by rw [e3]; rfl) h5, fun h61 => ?_⟩
      injection h61 with h61 _
      cases h61
     ·rw [e3]; rfl
    ·rename_i h34
     have hsg : signs.contains b = true := by
      unfold begins at hb0
      simp only [Bool.or_eq_true] at hb0
      rcases hb0 with ((h | h) | h) | h
      ·exact absurd h hl
      ·exact absurd h hd
      ·exact absurd h h34
      ·exact h
     split at h
     ·rename_i h61
      injection h with h1 h2
      subst h1
      simp only [Bool.and_eq_true, beq_iff_eq] at h61
      have hb61 : b = 61 := UInt8.toNat_inj.1 h61.1
      subst hb61
      cases l with
      | nil => cases h61.2
      | cons d l =>
       have : d = 61 := by simpa using h61.2
       subst this
       exact ⟨[61, 61], l, rfl, h2, .two, ⟨fun _ h6 => absurd rfl h6, fun he => by cases he⟩, rfl⟩
     ·rename_i h61
      injection h with h1 h2
      subst h1
      refine ⟨[b], l, rfl, h2, .sign b hsg, ⟨fun _ h6 => absurd rfl h6, fun he hx => ?_⟩, rfl⟩
      injection he with he
      subst he
      exact h61 (by simp [hx])
/-! ### decimal digits -/
theorem decDigits_step (u : Nat) (h : 10 ≤ u) : Lib.decDigits u = Lib.decDigits (u / 10) ++ [UInt8.ofNat (48 + u % 10)] := by
 conv => lhs; rw [Lib.decDigits, dif_neg (by omega)]
theorem zfaZ {c : UInt8} (h : digit c = true) : UInt8.ofNat (48 + (c.toNat - 48)) = c := by
 simp only [digit, Bool.and_eq_true, decide_eq_true_eq] at h
 rw [show 48 + (c.toNat - 48) = c.toNat by omega]
 exact UInt8.ofNat_toNat
theorem zcoZ : ∀ (l : Bytes) (v : Nat), 1 ≤ v → (∀ c ∈ l, digit c = true) → Lib.decDigits (l.foldl (fun v c => v * 10 + (c.toNat - 48)) v) = Lib.decDigits v ++ l
 | [], v, _, _ => by simp
 | c :: l, v, hv, hl => by
  have hc := hl c (List.mem_cons_self ..)
  have hc' := hc
  simp only [digit, Bool.and_eq_true, decide_eq_true_eq] at hc'
  rw [List.foldl_cons, zcoZ l _ (by omega) (fun d hd => hl d (List.mem_cons_of_mem _ hd)), decDigits_step _ (by omega)]
  rw [show (v * 10 + (c.toNat - 48)) / 10 = v by omega, show (v * 10 + (c.toNat - 48)) % 10 = c.toNat - 48 by omega, zfaZ hc]
  simp
theorem zclZ {c : UInt8} {s : Bytes} (hs : ∀ d ∈ c :: s, digit d = true) (hz : c = 48 → s = []) : Lib.decDigits (value (c :: s)) = c :: s := by
 have hc := hs c (List.mem_cons_self ..)
 have hc' := hc
 simp only [digit, Bool.and_eq_true, decide_eq_true_eq] at hc'
 have h1 : Lib.decDigits (c.toNat - 48) = [c] := by rw [Lib.decDigits_one (by omega), zfaZ hc]
 unfold value
 rw [List.foldl_cons, show 0 * 10 + (c.toNat - 48) = c.toNat - 48 by omega]
 by_cases h48 : c = 48
 ·rw [hz h48]; exact h1
 ·have : c.toNat ≠ 48 := fun e => h48 (UInt8.toNat_inj.1 e)
  rw [zcoZ s _ (by omega) (fun d hd => hs d (List.mem_cons_of_mem _ hd)), h1]
  rfl
theorem zflZ (u : Nat) : ∃ c s, Lib.decDigits u = c :: s ∧ (∀ d ∈ c :: s, digit d = true) ∧ value (c :: s) = u ∧ (c = 48 → s = [] ∧ u = 0) := by
 induction u using Nat.strongRecOn with
 | _ u ih =>
  have hd : ∀ m, m < 10 → digit (UInt8.ofNat (48 + m)) = true ∧ (UInt8.ofNat (48 + m)).toNat = 48 + m := by
   intro m hm
   have : (UInt8.ofNat (48 + m)).toNat = 48 + m := by rw [UInt8.toNat_ofNat', Nat.mod_eq_of_lt (by omega)]
   refine ⟨?_, this⟩
   simp only [digit, this, Bool.and_eq_true, decide_eq_true_eq]
   omega
  by_cases h : u < 10
  ·refine ⟨UInt8.ofNat (48 + u), [], Lib.decDigits_one h, ?_, ?_, ?_⟩
   ·intro d hd'
    rw [List.mem_singleton] at hd'
    subst hd'
    exact (hd u h).1
   ·unfold value
    rw [List.foldl_cons, List.foldl_nil, (hd u h).2]
    omega
   ·intro e
    refine ⟨rfl, ?_⟩
    have := (hd u h).2
    rw [e] at this
    have h48 : (48 : UInt8).toNat = 48 := rfl
    omega
  ·obtain ⟨c, s, e1, e2, e3, e4⟩ := ih (u / 10) (by omega)
   refine ⟨c, s ++ [UInt8.ofNat (48 + u % 10)], ?_, ?_, ?_, ?_⟩
   ·rw [decDigits_step u (by omega), e1]; simp
   ·intro d hd'
    rw [← List.cons_append, List.mem_append] at hd'
    rcases hd' with hd' | hd'
    ·exact e2 d hd'
    ·rw [List.mem_singleton] at hd'
     subst hd'
     exact (hd _ (by omega)).1
   ·rw [← List.cons_append]
    unfold value at e3 ⊢
    rw [List.foldl_append, e3]
    rw [List.foldl_cons, List.foldl_nil, (hd (u % 10) (by omega)).2]
    omega
   ·intro e
    have := (e4 e).2
    omega
/-! ### written -/
theorem form_begins {s : Bytes} {t : Tok} (h : Form s t) : ∃ c l, s = c :: l ∧ begins c = true := by
 cases h with
 | name c s hc _ _ => exact ⟨c, s, rfl, by simp [begins, hc]⟩
 | number c s hs _ _ => exact ⟨c, s, rfl, by simp [begins, hs c (List.mem_cons_self ..)]⟩
 | text u _ => exact ⟨34, _, rfl, rfl⟩
 | two => exact ⟨61, _, rfl, rfl⟩
 | sign c hc => exact ⟨c, [], rfl, by simp only [begins, hc, Bool.or_true]⟩
theorem form_raw {s : Bytes} {t : Tok} (h : Form s t) : raw t = some s := by
 cases h with
 | name c s hc hs hl =>
  unfold raw
  rw [if_pos]
  unfold nameKind
  split
  ·simp
  ·split <;> simp
 | number c s hs hv hz =>
  unfold raw
  rw [if_neg (by simp), if_pos rfl, if_neg (by simp)]
  show some (Lib.decDigits (value (c :: s))) = _
  rw [zclZ hs hz]
 | text u hu => rfl
 | two => rfl
 | sign c hc => rfl
theorem raw_bare (t : Tok) : raw t.bare = raw t := rfl
theorem zhgZ {s : Bytes} {t : Tok} (h : Form s t) : t.pos = 0 := by cases h <;> rfl
theorem zcmZ {s : Bytes} {t : Tok} (h : Form s t.bare) : written t = (s, true) := by
 have hr := form_raw h
 obtain ⟨c, l, rfl, hb⟩ := form_begins h
 rw [raw_bare] at hr
 have hc := zheZ h (sep_nil.after _ _) 0
 rw [List.append_nil] at hc
 unfold written
 rw [hr]
 simp only [hb, if_true, held, hc]
 simp [Tok.bare]
theorem form_of_written {t : Tok} (h : (written t).2 = true) : Form (written t).1 t.bare := by
 unfold written at h ⊢
 cases hr : raw t with
 | none => rw [hr] at h; cases h
 | some s =>
  rw [hr] at h
  cases s with
  | nil => cases h
  | cons c l =>
   simp only at h ⊢
   by_cases hb : begins c = true
   ·rw [if_pos hb] at h ⊢
    unfold held at h
    cases hcut : cut 0 (c :: l) with
    | bad y x => simp [hcut] at h
    | ok x n =>
     simp only [hcut, Bool.and_eq_true, beq_iff_eq] at h
     obtain ⟨s, x', e1, e2, e3, e4, e5⟩ := zhfZ (fun d hd => by injection hd with hd; subst hd; exact hb) hcut
     have hx : x' = [] := by
      have := congrArg List.length e1
      rw [List.length_append] at this
      exact List.length_eq_zero_iff.1 (by omega)
     rw [hx, List.append_nil] at e1
     rw [e1]
     have : x.bare = t.bare := by rw [h.2]; rfl
     rw [← this]
     exact e3
   ·rw [if_neg hb] at h
    cases h
end Go.Proofs.YtdncljdfmdgdaaaGreatDoor.Lx
namespace Go.Proofs.YtdncljdfmdgdaaaGreatDoor.Lx
open Go
/-! ### blanks -/
theorem zfbZ {c : UInt8} (h : begins c = true) : blank c = false ∧ c ≠ 47 := by
 unfold begins at h
 simp only [Bool.or_eq_true] at h
 have key : ∀ n : Nat, c.toNat = n → (n ≠ 9 ∧ n ≠ 10 ∧ n ≠ 13 ∧ n ≠ 32 ∧ n ≠ 47) → blank c = false ∧ c ≠ 47 := by
  rintro n hn ⟨h1, h2, h3, h4, h5⟩
  refine ⟨?_, ?_⟩
  ·unfold blank
   simp only [hn, Bool.or_eq_false_iff, beq_eq_false_iff_ne]
   exact ⟨⟨⟨h1, h2⟩, h3⟩, h4⟩
  ·rintro rfl
   exact h5 hn.symm
 rcases h with ((h | h) | h) | h
 ·simp only [letter, small, great, Bool.or_eq_true, Bool.and_eq_true, decide_eq_true_eq] at h
  exact key _ rfl (by omega)
 ·simp only [digit, Bool.and_eq_true, decide_eq_true_eq] at h
  exact key _ rfl (by omega)
 ·simp only [beq_iff_eq] at h
  exact key _ rfl (by omega)
 ·exact ⟨(zcvZ h).2.2.2.2, (zcvZ h).2.2.2.1⟩
theorem zibZ {c : UInt8} {l : Bytes} (h : begins c = true) : skip false (c :: l) = c :: l := skip_stays (zfbZ h).1 (fun e => (zfbZ h).2 (UInt8.toNat_inj.1 e.1))
/-! ### one round -/
theorem go_nil {f p i : Nat} {l : Bytes} (h : skip false l = []) : go (f + 1) p i l = ([], none) := by
 simp [go, h]
theorem go_tok {f p i : Nat} {l s x : Bytes} {t : Tok} (hs : skip false l = s ++ x) (hf : Form s t) (ha : After s x t) (hi : i ≠ 4096) :
  go (f + 1) p i l = ({ t with pos := ((p + (l.length - (s ++ x).length) : Nat) : Int) } :: (go f (p + (l.length - (s ++ x).length) + s.length) (i + 1) x).1, (go f (p + (l.length - (s ++ x).length) + s.length) (i + 1) x).2) := by
 obtain ⟨c, r, e, hb⟩ := form_begins hf
 have hcut := zheZ hf ha (p + (l.length - (s ++ x).length))
 rw [go]
 simp only [hs]
 rw [e, List.cons_append] at *
 simp only [hb, Bool.not_true, Bool.false_eq_true, if_false, hi, beq_iff_eq]
 rw [hcut]
 simp only
 rw [show (c :: (r ++ x)).drop (c :: r).length = x from List.drop_left (l₁ := c :: r)]
theorem go_inv {f p i : Nat} {l : Bytes} {ts : List Tok} (h : go (f + 1) p i l = (ts, none)) : (skip false l = [] ∧ ts = []) ∨
  ∃ s x t ts', skip false l = s ++ x ∧ Form s t ∧ After s x t ∧ i ≠ 4096 ∧ ts = { t with pos := ((p + (l.length - (s ++ x).length) : Nat) : Int) } :: ts' ∧ go f (p + (l.length - (s ++ x).length) + s.length) (i + 1) x = (ts', none) := by
 rw [go] at h
 simp only at h
 split at h
 ·rename_i hr
  injection h with h1 h2
  exact .inl ⟨hr, h1.symm⟩
 ·rename_i b r hr
  right
  by_cases hb : begins b = true
  ·rw [hb] at h
   simp only [Bool.not_true, Bool.false_eq_true, if_false] at h
   by_cases hi : i = 4096
   ·simp [hi] at h
   ·simp only [beq_iff_eq, hi, if_false] at h
    split at h
    ·injection h with h1 h2; cases h2
    ·rename_i t n hcut
     rw [hr] at hcut
     obtain ⟨s, x, e1, e2, e3, e4, e5⟩ := zhfZ (fun d hd => by injection hd with hd; subst hd; exact hb) hcut
     subst e2
     rw [hr, e1] at h
     rw [List.drop_left] at h
     injection h with h1 h2
     refine ⟨s, x, t.bare, _, by rw [hr, e1], e3, e4, hi, ?_, Prod.ext rfl h2⟩
     rw [← h1]
     congr 1
     rw [e5]
     rw [e1]
     rfl
  ·simp [hb] at h
theorem zmdZ {s : Bytes} {t : Tok} (h : Form s t) : 0 < s.length := by
 obtain ⟨c, r, e, -⟩ := form_begins h
 rw [e]; simp
/-! ### a rest behind a line's end -/
/-! ### what every cut token is -/
theorem zhhZ : ∀ (f p i : Nat) (l : Bytes) (ts : List Tok), go f p i l = (ts, none) → i ≤ 4096 → i + ts.length ≤ 4096 ∧ ∀ t ∈ ts, Form (written t).1 t.bare ∧ (written t).2 = true ∧ (written t).1.length ≤ l.length ∧ (p : Int) ≤ t.pos ∧ t.pos < p + l.length
 | 0, p, i, l, ts, h, hi => by
  rw [go] at h
  injection h with h1 h2
  subst h1
  exact ⟨by simpa using hi, by simp⟩
 | f + 1, p, i, l, ts, h, hi => by
  rcases go_inv h with ⟨hs, rfl⟩ | ⟨s, x, t, ts', hs, hf, ha, hi', rfl, hg⟩
  ·exact ⟨by simpa using hi, by simp⟩
  ·obtain ⟨h1, h2⟩ := zhhZ f _ _ x ts' hg (by omega)
   have hle := skip_le false l
   have hsl := zmdZ hf
   rw [hs, List.length_append] at hle
   refine ⟨by rw [List.length_cons]; omega, ?_⟩
   intro u hu
   rcases List.mem_cons.1 hu with rfl | hu
   ·have hb : Tok.bare { t with pos := ((p + (l.length - (s ++ x).length) : Nat) : Int) } = t := by
     have := zhgZ hf
     cases t
     simp only [Tok.bare] at *
     subst this
     rfl
    have hw := zcmZ (t := { t with pos := ((p + (l.length - (s ++ x).length) : Nat) : Int) }) (s := s) (by rw [hb]; exact hf)
    rw [hw, hb]
    refine ⟨hf, rfl, by simp only; omega, by simp only; omega, ?_⟩
    simp only [List.length_append]
    omega
   ·obtain ⟨a1, a2, a3, a4, a5⟩ := h2 u hu
    rw [List.length_append] at a4 a5
    exact ⟨a1, a2, by omega, by omega, by omega⟩
/-! ### join -/
theorem join_one_bad {t : Tok} (h : (written t).2 = false) : join [t] = ([], 1) := by
 have hj : joinFrom 0 [] [t] = none := by
  unfold joinFrom
  rw [if_neg (by simp [h])]
 unfold join
 rw [hj]
end Go.Proofs.YtdncljdfmdgdaaaGreatDoor.Lx
namespace Go.Proofs.YtdncljdfmdgdaaaGreatDoor.Lx
open Go
set_option linter.unusedSimpArgs false
theorem zmeZ {s : Bytes} {t : Tok} (h : Form s t) (hl : s.length ≤ 65536) : toks s = ([t], none) := by
 obtain ⟨c, r, e, hb⟩ := form_begins h
 have hs : skip false s = s ++ [] := by rw [e, zibZ hb, List.append_nil]
 unfold toks
 rw [if_neg (by omega), go_tok hs h (sep_nil.after _ _) (by decide)]
 have hp := zhgZ h
 obtain ⟨f, hf⟩ : ∃ f, s.length = f + 1 := ⟨s.length - 1, by rw [e]; simp⟩
 rw [List.append_nil, Nat.sub_self, hf, go_nil (skip_end _)]
 cases t
 simp only at hp
 subst hp
 rfl
/-! ### texts -/
theorem quote_len (s : Bytes) : (quote s).length ≤ 2 * s.length + 2 := by
 have := quoteIn_len s
 simp [quote]
 omega
/-! ### numbers -/
end Go.Proofs.YtdncljdfmdgdaaaGreatDoor.Lx
