/-
  The walks of coilkeep.Type, Types.
  slices.Equal at texts.
  slices.Equal at bools.
  The walk of syntax.Same.
  The walks of syntax.Nodes and syntax.Depth.
  Plain laws: what text a token has, and that a cut looks no further than its token. No program in sight.
  Plain laws: what is joined is cut back; a rest behind a line's end; a token's place. No program in sight.
  Plain laws: single tokens cut from their texts. No program in sight.
-/
import Derived.Test.YtdncljdfmdgdaaaGreatDoorM14
import Derived.Test.YtdncljdfmdgdaaaGreatDoorM13
import Derived.Test.YtdncljdfmdgdaaaGreatDoorM18
import Derived.Test.YtdncljdfmdgdaaaGreatDoorM10
import Derived.Test.YtdncljdfmdgdaaaGreatDoorM8
namespace Go.Proofs.YtdncljdfmdgdaaaGreatDoor
open Go.RowKit Go.Shelf
set_option linter.unusedSimpArgs false
set_option linter.unusedVariables false

mutual
/-- Are two types the same tree? -/
def Sx.eqT : Sx.Ty → Sx.Ty → Bool
  | .mk k n ns es ps, .mk k' n' ns' es' ps' => (k == k') && ((n == n') && (decide (ns = ns') && (decide (es = es') && Sx.eqTs ps ps')))
def Sx.eqTs : List Sx.Ty → List Sx.Ty → Bool
  | [], [] => true
  | t :: l, u :: m => Sx.eqT t u && Sx.eqTs l m
  | _, _ => false
end
mutual
theorem Sx.eqT_iff : ∀ (t u : Sx.Ty), Sx.eqT t u = true ↔ t = u
  | .mk k n ns es ps, .mk k' n' ns' es' ps' => by
    rw [Sx.eqT]
    simp [Sx.eqTs_iff ps ps']
theorem Sx.eqTs_iff : ∀ (l m : List Sx.Ty), Sx.eqTs l m = true ↔ l = m
  | [], [] => by simp [Sx.eqTs]
  | t :: l, u :: m => by
    rw [Sx.eqTs, Bool.and_eq_true, Sx.eqT_iff t u, Sx.eqTs_iff l m]
    simp
  | [], u :: m => by simp [Sx.eqTs]
  | t :: l, [] => by simp [Sx.eqTs]
end

def KTyOk (t : Sx.Ty) : Prop := ∀ (u : Sx.Ty) (v x : Value) (W : World), Sx.size t ≤ 1000000 → Sx.size u ≤ 1000000 → IsTy W v t → IsTy W x u →
  Calls Tryz.prog 30 #[v, x] W fun e W' => e = .returned (.bool (Sx.eqT t u)) ∧ Below W.heap.size W W'
def KTysOk (l : List Sx.Ty) : Prop := ∀ (m : List Sx.Ty) (v x : Value) (W : World), Sx.sizeL l ≤ 1000000 → Sx.sizeL m ≤ 1000000 → TyRow W v l → TyRow W x m →
  Calls Tryz.prog 72 #[v, x] W fun e W' => e = .returned (.bool (Sx.eqTs l m)) ∧ Below W.heap.size W W'

set_option maxRecDepth 100000 in
set_option maxHeartbeats 8000000 in
theorem keepTypes (l : List Sx.Ty) (ih : ∀ t ∈ l, KTyOk t) : KTysOk l := by
  intro m v x W hz1 hz2 hv hx
  have hl1 := Sx.length_size l
  have hl2 := Sx.length_size m
  obtain ⟨A1, c1, rfl, hca, hra⟩ := hv
  obtain ⟨A2, c2, rfl, hcb, hrb⟩ := hx
  have HV := Lib.hid (show TyRow W (.slice A1 l.length c1) l from ⟨A1, c1, rfl, hca, hra⟩)
  have HX := Lib.hid (show TyRow W (.slice A2 m.length c2) m from ⟨A2, c2, rfl, hcb, hrb⟩)
  clear hca hra hcb hrb
  obtain ⟨k, hk⟩ : ∃ k, l.length = k := ⟨_, rfl⟩
  obtain ⟨j, hj⟩ : ∃ j, m.length = j := ⟨_, rfl⟩
  rw [hk] at HV ⊢
  rw [hj] at HX ⊢
  have k0 : (0 : Int) ≤ (k : Int) := by omega
  have k1 : (k : Int) ≤ 1000000 := by omega
  have j0 : (0 : Int) ≤ (j : Int) := by omega
  have j1 : (j : Int) ≤ 1000000 := by omega
  have HK := Lib.hid hk
  have HJ := Lib.hid hj
  have HZ1 := Lib.hid hz1
  have HZ2 := Lib.hid hz2
  have HIH := Lib.hid ih
  obtain ⟨L, hL⟩ : ∃ L, W.heap.size = L := ⟨_, rfl⟩
  have HL := Lib.hid hL
  clear hk hj hl1 hl2 hz1 hz2 ih hL
  by_cases hkj : k = j
  · subst hkj
    have HLE := Lib.hid (show m.length = k from HJ.out)
    go_enter Tryz.func72, Tryz.ntmps72
    go_wp2_with fail
    go_loopg [5] k (fun i v wr => ∃ (q : Nat), i = k - q ∧ v = .int .i64 (q : Int) ∧ q ≤ k ∧ l.take q = m.take q ∧ Below L W wr)
    case atStart => exact ⟨0, rfl, rfl, Nat.zero_le _, by simp, Below.refl _ _⟩
    case round =>
      obtain ⟨q, hi, rfl, hq, he, hb⟩ := hrel
      have HI := Lib.hid hi
      have HE := Lib.hid he
      have HB := Lib.hid hb
      have q0 : (0 : Int) ≤ (q : Int) := by omega
      have hLs : L ≤ wr.heap.size := by have := hb.size; have := HL.out; omega
      clear hi he hb
      by_cases hlt : q < k
      · have hqi : (q : Int) < (k : Int) := by omega
        have hq1 : q < l.length := by have := HK.out; omega
        have hq2 : q < m.length := by have := HLE.out; omega
        obtain ⟨g, off, An, cn, Ae, ce, Aq, cq, rfl, hty, hc5⟩ := HV.out.spot q hq1
        obtain ⟨g2, off2, Bn, dn, Be, de, Bq, dq, rfl, hty2, hd5⟩ := HX.out.spot q hq2
        rw [HL.out] at hc5 hd5
        obtain ⟨hg, x0, x1, x2, x3, x4⟩ := hc5 wr HB.out
        obtain ⟨hg2, y0, y1, y2, y3, y4⟩ := hd5 wr HB.out
        have hts := fun h : l[q]'hq1 = m[q]'hq2 => take_step HE.out hq1 hq2 h
        have hsm := Sx.size_mem (List.getElem_mem hq1)
        have hsm2 := Sx.size_mem (List.getElem_mem hq2)
        have hmem := List.getElem_mem hq1
        have hne : l[q]'hq1 ≠ m[q]'hq2 → Sx.eqTs l m = false := fun h => by
          cases hh : Sx.eqTs l m with
          | false => rfl
          | true => have := (Sx.eqTs_iff l m).1 hh; subst this; exact absurd rfl h
        obtain ⟨p, hp⟩ : ∃ p, l[q]'hq1 = p := ⟨_, rfl⟩
        obtain ⟨p2, hp2⟩ : ∃ p, m[q]'hq2 = p := ⟨_, rfl⟩
        rw [hp] at x0 x1 x2 x3 x4 hty hsm hmem
        rw [hp2] at y0 y1 y2 y3 y4 hty2 hsm2
        rw [hp, hp2] at hts hne
        have hbw : Below W.heap.size W wr.drew := by rw [HL.out]; exact Below.drew HB.out
        have hre := HIH.out p hmem p2 _ _ wr.drew (by have := HZ1.out; omega) (by have := HZ2.out; omega) (IsTy.below hbw _ _ hty) (IsTy.below hbw _ _ hty2)
        have HRE := Lib.hid hre
        have HTS := Lib.hid hts
        have HNE := Lib.hid hne
        clear hty hty2 hc5 hd5 hsm hsm2 hmem hp hp2 hbw hre hts hne
        go_upto_region 6 with fail
        cases hc : Sx.eqT p p2 with
        | true =>
          rw [hc] at HRE
          have HEQ := Lib.hid (HTS.out ((Sx.eqT_iff p p2).1 hc))
          clear hc
          go_region_with (go_at_call 30; refine HRE.out.mono ?_; rintro e w5 ⟨rfl, hb5⟩)
          all_goals
            have HB5 := Lib.hid ((Below.drew HB.out).trans (hb5.mono hLs))
            clear hb5
            go_wp2_with fail
            go_roundg (k - (q + 1))
            case measure => have := HI.out; omega
            case rel => exact ⟨q + 1, rfl, by simp, hlt, HEQ.out, HB5.out⟩
        | false =>
          rw [hc] at HRE
          have HF := Lib.hid (HNE.out (fun h => by have := (Sx.eqT_iff p p2).2 h; rw [hc] at this; cases this))
          clear hc
          go_region_with (go_at_call 30; refine HRE.out.mono ?_; rintro e w5 ⟨rfl, hb5⟩)
          all_goals
            have HB5 := Lib.hid ((Below.drew HB.out).trans (hb5.mono hLs))
            clear hb5
            go_wp2_with fail
            go_ret
            rw [HF.out, HL.out]
            exact ⟨rfl, HB5.out⟩
      · have hqi : ¬ (q : Int) < (k : Int) := by omega
        have HF := Lib.hid (show Sx.eqTs l m = true by
          have h := HE.out
          rw [List.take_of_length_le (by have := HK.out; omega), List.take_of_length_le (by have := HLE.out; omega)] at h
          exact (Sx.eqTs_iff l m).2 h)
        go_wp2_with fail
        go_ret
        rw [HF.out, HL.out]
        exact ⟨rfl, HB.out⟩
  · have hb : ((k : Int) != (j : Int)) = true := by rw [bne_iff_ne]; omega
    have HF := Lib.hid (show Sx.eqTs l m = false by
      cases hh : Sx.eqTs l m with
      | false => rfl
      | true => have := (Sx.eqTs_iff l m).1 hh; subst this; have := HK.out; have := HJ.out; omega)
    go_enter Tryz.func72, Tryz.ntmps72
    go_wp2_with fail
    go_ret
    rw [HF.out]
    exact ⟨rfl, Below.refl _ _⟩

theorem Sx.eqT_parts (t u : Sx.Ty) : Sx.eqT t u = ((t.kind == u.kind) && ((t.name == u.name) && (decide (t.names = u.names) && (decide (t.embeds = u.embeds) && Sx.eqTs t.parts u.parts)))) := by
  cases t; cases u; rw [Sx.eqT]; rfl

set_option maxRecDepth 100000 in
set_option maxHeartbeats 8000000 in
theorem keepType1 (t : Sx.Ty) (ih : KTysOk t.parts) : KTyOk t := by
  intro u v x W hz1 hz2 hv hx
  have hs1 := Sx.size_parts t
  have hs2 := Sx.size_parts u
  have hp1 := Sx.length_size t.parts
  have hp2 := Sx.length_size u.parts
  have heq := Sx.eqT_parts t u
  obtain ⟨An, cn, Ae, ce, Ap, cp, rfl, h1, h2, h3⟩ := hv.agg
  obtain ⟨Bn, dn, Be, de, Bp, dp, rfl, h4, h5, h6⟩ := hx.agg
  have hT := fun X (hX : Below W.heap.size W X) => keepTexts t.names u.names _ _ X (h1.below hX) (h4.below hX) (by omega) (by omega)
  have hB := fun X (hX : Below W.heap.size W X) => keepBools t.embeds u.embeds _ _ X (h2.below hX) (h5.below hX) (by omega) (by omega)
  have hP := fun X (hX : Below W.heap.size W X) => ih u.parts _ _ X (by omega) (by omega) (h3.below hX) (h6.below hX)
  obtain ⟨b1, e1⟩ : ∃ b, (t.kind == u.kind) = b := ⟨_, rfl⟩
  obtain ⟨b2, e2⟩ : ∃ b, (t.name == u.name) = b := ⟨_, rfl⟩
  obtain ⟨b3, e3⟩ : ∃ b, decide (t.names = u.names) = b := ⟨_, rfl⟩
  obtain ⟨b4, e4⟩ : ∃ b, decide (t.embeds = u.embeds) = b := ⟨_, rfl⟩
  obtain ⟨b5, e5⟩ : ∃ b, Sx.eqTs t.parts u.parts = b := ⟨_, rfl⟩
  rw [e1, e2, e3, e4, e5] at heq
  rw [e3] at hT
  rw [e4] at hB
  rw [e5] at hP
  rw [heq]
  obtain ⟨kt, hkt⟩ : ∃ k, t.kind = k := ⟨_, rfl⟩
  obtain ⟨ku, hku⟩ : ∃ k, u.kind = k := ⟨_, rfl⟩
  obtain ⟨nt, hnt⟩ : ∃ k, t.name = k := ⟨_, rfl⟩
  obtain ⟨nu, hnu⟩ : ∃ k, u.name = k := ⟨_, rfl⟩
  rw [hkt, hku] at e1
  rw [hnt, hnu] at e2
  rw [hkt, hku, hnt, hnu]
  obtain ⟨L, hL⟩ : ∃ L, W.heap.size = L := ⟨_, rfl⟩
  obtain ⟨w2, hw2⟩ : ∃ w2, W.alloc (.cells #[.int .i64 kt, .string ⟨nt.toArray⟩, .slice An t.names.length cn, .slice Ae t.embeds.length ce, .slice Ap t.parts.length cp] 26) = w2 := ⟨_, rfl⟩
  obtain ⟨L5, hL5⟩ : ∃ L5, w2.heap.size = L5 := ⟨_, rfl⟩
  obtain ⟨w3, hw3⟩ : ∃ w3, w2.alloc (.cells #[.int .i64 ku, .string ⟨nu.toArray⟩, .slice Bn u.names.length dn, .slice Be u.embeds.length de, .slice Bp u.parts.length dp] 26) = w3 := ⟨_, rfl⟩
  have g2 := World.grownBy_alloc W (.cells #[.int .i64 kt, .string ⟨nt.toArray⟩, .slice An t.names.length cn, .slice Ae t.embeds.length ce, .slice Ap t.parts.length cp] 26) none
  have x2 := heap_alloc_new W (.cells #[.int .i64 kt, .string ⟨nt.toArray⟩, .slice An t.names.length cn, .slice Ae t.embeds.length ce, .slice Ap t.parts.length cp] 26)
  rw [hw2] at g2 x2
  have g3 := World.grownBy_alloc w2 (.cells #[.int .i64 ku, .string ⟨nu.toArray⟩, .slice Bn u.names.length dn, .slice Be u.embeds.length de, .slice Bp u.parts.length dp] 26) none
  have x3 := heap_alloc_new w2 (.cells #[.int .i64 ku, .string ⟨nu.toArray⟩, .slice Bn u.names.length dn, .slice Be u.embeds.length de, .slice Bp u.parts.length dp] 26)
  rw [hw3] at g3 x3
  rw [hL] at x2
  rw [hL5] at x3
  have H3 := Lib.hid (show Held2 L W #[.int .i64 kt, .string ⟨nt.toArray⟩, .slice An t.names.length cn, .slice Ae t.embeds.length ce, .slice Ap t.parts.length cp] 26 L5 #[.int .i64 ku, .string ⟨nu.toArray⟩, .slice Bn u.names.length dn, .slice Be u.embeds.length de, .slice Bp u.parts.length dp] 26 w3 from ⟨by rw [← hL]; exact (grown_below g2).trans ((grown_below g3).mono g2.size), (g3.block L (lt_of_block x2) (fun e => nomatch e)).trans x2, x3⟩)
  have HT := Lib.hid hT
  have HB := Lib.hid hB
  have HP := Lib.hid hP
  have HL := Lib.hid hL
  clear hT hB hP g2 g3 x2 x3 heq hs1 hs2 hp1 hp2 h1 h2 h3 h4 h5 h6 e3 e4 e5 hkt hku hnt hnu hv hx ih hz1 hz2
  have h6 := HL.out
  obtain ⟨x0, x1, x2, x3, x4⟩ := five_cells H3.out.b1
  obtain ⟨y0, y1, y2, y3, y4⟩ := five_cells H3.out.b2
  obtain ⟨l1, l2⟩ := H3.out.lt
  cases b1 with
  | false =>
    go_enter Tryz.func30, Tryz.ntmps30
    go_wp2_with fail
    go_ret
    refine ⟨by first | rfl | simp, ?_⟩
    first | exact H3.out.b | (rw [HL.out]; exact H3.out.b)
  | true =>
    obtain rfl : kt = ku := by simpa using e1
    clear e1
    cases b2 with
    | false =>
      go_enter Tryz.func30, Tryz.ntmps30
      go_wp2_with fail
      go_ret
      refine ⟨by first | rfl | simp, ?_⟩
      first | exact H3.out.b | (rw [HL.out]; exact H3.out.b)
    | true =>
      obtain rfl : nt = nu := by simpa using e2
      clear e2
      cases b3 with
      | false =>
        go_enter Tryz.func30, Tryz.ntmps30
        go_wp2_with (go_at_call 46; refine (HT.out _ (by first | exact H3.out.b | (rw [HL.out]; exact H3.out.b))).mono ?_; rintro e w4 ⟨rfl, hb4⟩; have H4 := Lib.hid (H3.out.go hb4); clear hb4; clear x0 x1 x2 x3 x4 y0 y1 y2 y3 y4 l1 l2; obtain ⟨x0, x1, x2, x3, x4⟩ := five_cells H4.out.b1; obtain ⟨y0, y1, y2, y3, y4⟩ := five_cells H4.out.b2; obtain ⟨l1, l2⟩ := H4.out.lt)
        go_ret
        refine ⟨by first | rfl | simp, ?_⟩
        first | exact H4.out.b | (rw [HL.out]; exact H4.out.b)
      | true =>
        cases b4 with
        | false =>
          go_enter Tryz.func30, Tryz.ntmps30
          go_wp2_with (first | (go_at_call 46; refine (HT.out _ (by first | exact H3.out.b | (rw [HL.out]; exact H3.out.b))).mono ?_; rintro e w4 ⟨rfl, hb4⟩; have H4 := Lib.hid (H3.out.go hb4); clear hb4; clear x0 x1 x2 x3 x4 y0 y1 y2 y3 y4 l1 l2; obtain ⟨x0, x1, x2, x3, x4⟩ := five_cells H4.out.b1; obtain ⟨y0, y1, y2, y3, y4⟩ := five_cells H4.out.b2; obtain ⟨l1, l2⟩ := H4.out.lt) | (go_at_call 71; refine (HB.out _ (by first | exact H4.out.b | (rw [HL.out]; exact H4.out.b))).mono ?_; rintro e w5 ⟨rfl, hb5⟩; have H5 := Lib.hid (H4.out.go hb5); clear hb5; clear x0 x1 x2 x3 x4 y0 y1 y2 y3 y4 l1 l2; obtain ⟨x0, x1, x2, x3, x4⟩ := five_cells H5.out.b1; obtain ⟨y0, y1, y2, y3, y4⟩ := five_cells H5.out.b2; obtain ⟨l1, l2⟩ := H5.out.lt))
          go_ret
          refine ⟨by first | rfl | simp, ?_⟩
          first | exact H5.out.b | (rw [HL.out]; exact H5.out.b)
        | true =>
          cases b5 with
          | false =>
            go_enter Tryz.func30, Tryz.ntmps30
            go_wp2_with (first | (go_at_call 46; refine (HT.out _ (by first | exact H3.out.b | (rw [HL.out]; exact H3.out.b))).mono ?_; rintro e w4 ⟨rfl, hb4⟩; have H4 := Lib.hid (H3.out.go hb4); clear hb4; clear x0 x1 x2 x3 x4 y0 y1 y2 y3 y4 l1 l2; obtain ⟨x0, x1, x2, x3, x4⟩ := five_cells H4.out.b1; obtain ⟨y0, y1, y2, y3, y4⟩ := five_cells H4.out.b2; obtain ⟨l1, l2⟩ := H4.out.lt) | (go_at_call 71; refine (HB.out _ (by first | exact H4.out.b | (rw [HL.out]; exact H4.out.b))).mono ?_; rintro e w5 ⟨rfl, hb5⟩; have H5 := Lib.hid (H4.out.go hb5); clear hb5; clear x0 x1 x2 x3 x4 y0 y1 y2 y3 y4 l1 l2; obtain ⟨x0, x1, x2, x3, x4⟩ := five_cells H5.out.b1; obtain ⟨y0, y1, y2, y3, y4⟩ := five_cells H5.out.b2; obtain ⟨l1, l2⟩ := H5.out.lt) | (go_at_call 72; refine (HP.out _ (by first | exact H5.out.b | (rw [HL.out]; exact H5.out.b))).mono ?_; rintro e w6 ⟨rfl, hb6⟩; have H6 := Lib.hid (H5.out.go hb6); clear hb6; clear x0 x1 x2 x3 x4 y0 y1 y2 y3 y4 l1 l2; obtain ⟨x0, x1, x2, x3, x4⟩ := five_cells H6.out.b1; obtain ⟨y0, y1, y2, y3, y4⟩ := five_cells H6.out.b2; obtain ⟨l1, l2⟩ := H6.out.lt))
            go_ret
            refine ⟨by first | rfl | simp, ?_⟩
            first | exact H6.out.b | (rw [HL.out]; exact H6.out.b)
          | true =>
            go_enter Tryz.func30, Tryz.ntmps30
            go_wp2_with (first | (go_at_call 46; refine (HT.out _ (by first | exact H3.out.b | (rw [HL.out]; exact H3.out.b))).mono ?_; rintro e w4 ⟨rfl, hb4⟩; have H4 := Lib.hid (H3.out.go hb4); clear hb4; clear x0 x1 x2 x3 x4 y0 y1 y2 y3 y4 l1 l2; obtain ⟨x0, x1, x2, x3, x4⟩ := five_cells H4.out.b1; obtain ⟨y0, y1, y2, y3, y4⟩ := five_cells H4.out.b2; obtain ⟨l1, l2⟩ := H4.out.lt) | (go_at_call 71; refine (HB.out _ (by first | exact H4.out.b | (rw [HL.out]; exact H4.out.b))).mono ?_; rintro e w5 ⟨rfl, hb5⟩; have H5 := Lib.hid (H4.out.go hb5); clear hb5; clear x0 x1 x2 x3 x4 y0 y1 y2 y3 y4 l1 l2; obtain ⟨x0, x1, x2, x3, x4⟩ := five_cells H5.out.b1; obtain ⟨y0, y1, y2, y3, y4⟩ := five_cells H5.out.b2; obtain ⟨l1, l2⟩ := H5.out.lt) | (go_at_call 72; refine (HP.out _ (by first | exact H5.out.b | (rw [HL.out]; exact H5.out.b))).mono ?_; rintro e w6 ⟨rfl, hb6⟩; have H6 := Lib.hid (H5.out.go hb6); clear hb6; clear x0 x1 x2 x3 x4 y0 y1 y2 y3 y4 l1 l2; obtain ⟨x0, x1, x2, x3, x4⟩ := five_cells H6.out.b1; obtain ⟨y0, y1, y2, y3, y4⟩ := five_cells H6.out.b2; obtain ⟨l1, l2⟩ := H6.out.lt))
            go_ret
            refine ⟨by first | rfl | simp, ?_⟩
            first | exact H6.out.b | (rw [HL.out]; exact H6.out.b)
theorem keepTypeAll : ∀ (n : Nat) (t : Sx.Ty), Sx.size t ≤ n → KTyOk t
  | 0, t, h => by have := Sx.size_pos t; omega
  | n + 1, t, h => keepType1 t (keepTypes t.parts fun p hp => keepTypeAll n p (by
      have := Sx.size_mem hp
      have := Sx.size_parts t
      omega))

end Go.Proofs.YtdncljdfmdgdaaaGreatDoor

namespace Go.Proofs.YtdncljdfmdgdaaaGreatDoor
open Go.RowKit Go.Shelf
set_option linter.unusedSimpArgs false
set_option linter.unusedVariables false

set_option maxHeartbeats 4000000 in
theorem eqTexts (ts us : List Lx.Bytes) (v u : Value) (w : World) (hv : StrRow w v ts) (hu : StrRow w u us) (hl : ts.length ≤ 1000000000) (hl2 : us.length ≤ 1000000000) :
    Calls Tryz.prog 85 #[v, u] w fun e w' => e = .returned (.bool (decide (ts = us))) ∧ Below w.heap.size w w' := by
  obtain ⟨A1, c1, rfl, hv'⟩ := hv
  obtain ⟨A2, c2, rfl, hu'⟩ := hu
  have HA := Lib.hid (show StrRow w (.slice A1 ts.length c1) ts from ⟨A1, c1, rfl, hv'⟩)
  have HB := Lib.hid (show StrRow w (.slice A2 us.length c2) us from ⟨A2, c2, rfl, hu'⟩)
  clear hv' hu'
  by_cases hlen : ts.length = us.length
  · have hb : ((ts.length : Int) != (us.length : Int)) = false := by simp [hlen]
    have HL := Lib.hid hlen
    clear hlen
    go_enter Tryz.func85, Tryz.ntmps85
    go_wp2
    go_loopg [13] (ts.length) (fun n v wr => ∃ (m : Nat), n = ts.length - m ∧ v = .int .i64 (m : Int) ∧ m ≤ ts.length ∧ ts.take m = us.take m ∧ Below w.heap.size w wr)
    case atStart => exact ⟨0, rfl, rfl, Nat.zero_le _, by simp, Below.refl _ _⟩
    case round =>
      obtain ⟨m, hn, rfl, hm, he, hbl⟩ := hrel
      have HN := Lib.hid hn
      have HE := Lib.hid he
      clear hn he
      by_cases hlt : m < ts.length
      · have hlt2 : m < us.length := by rw [← HL.out]; exact hlt
        have hi : (m : Int) < (ts.length : Int) := by omega
        have hi2 : (m : Int) < (us.length : Int) := by omega
        have hi0 : (0 : Int) ≤ (m : Int) := by omega
        have hmi : (m : Int) ≤ 1000000000 := by omega
        obtain ⟨g, off, rfl, hgl, t0⟩ := HA.out.cellAt hbl m hlt
        obtain ⟨g2, off2, rfl, hgl2, u0⟩ := HB.out.cellAt hbl m hlt2
        obtain ⟨t, ht⟩ : ∃ t, ts[m]'hlt = t := ⟨_, rfl⟩
        obtain ⟨x, hx⟩ : ∃ x, us[m]'hlt2 = x := ⟨_, rfl⟩
        rw [ht] at t0
        rw [hx] at u0
        have HT := Lib.hid ht
        have HX := Lib.hid hx
        clear ht hx
        cases hq : (t == x) with
        | true =>
          have htx : t = x := by simpa using hq
          have HS := Lib.hid (take_step HE.out hlt hlt2 (by rw [HT.out, HX.out, htx]))
          clear htx
          go_wp2
          go_quiet (fail)
          go_wp2
          go_roundg (ts.length - (m + 1))
          case measure => have := HN.out; omega
          case rel => exact ⟨m + 1, rfl, by simp, hlt, HS.out, Below.drewN hbl _⟩
        | false =>
          have htx : t ≠ x := by simpa using hq
          have HS := Lib.hid (show decide (ts = us) = false by
            rw [decide_eq_false_iff_not]
            rintro rfl
            exact htx (HT.out.symm.trans HX.out))
          clear htx
          go_wp2
          go_quiet (fail)
          go_wp2
          go_ret
          rw [HS.out]
          exact ⟨rfl, Below.drewN hbl _⟩
      · have hi : ¬ (m : Int) < (ts.length : Int) := by omega
        have HS := Lib.hid (show decide (ts = us) = true by
          rw [decide_eq_true_eq]
          have h1 := HE.out
          rwa [List.take_of_length_le (by omega), List.take_of_length_le (by have := HL.out; omega)] at h1)
        go_wp2
        go_ret
        rw [HS.out]
        exact ⟨rfl, hbl⟩
  · have hb : ((ts.length : Int) != (us.length : Int)) = true := by simp; omega
    have HS := Lib.hid (show decide (ts = us) = false by
      rw [decide_eq_false_iff_not]
      rintro rfl
      exact hlen rfl)
    clear hlen
    go_enter Tryz.func85, Tryz.ntmps85
    go_wp2
    go_ret
    rw [HS.out]
    exact ⟨rfl, Below.refl _ _⟩


end Go.Proofs.YtdncljdfmdgdaaaGreatDoor

namespace Go.Proofs.YtdncljdfmdgdaaaGreatDoor
open Go.RowKit Go.Shelf
set_option linter.unusedSimpArgs false
set_option linter.unusedVariables false

set_option maxHeartbeats 4000000 in
theorem eqBools (ts us : List Bool) (v u : Value) (w : World) (hv : BoolRow w v ts) (hu : BoolRow w u us) (hl : ts.length ≤ 1000000000) (hl2 : us.length ≤ 1000000000) :
    Calls Tryz.prog 86 #[v, u] w fun e w' => e = .returned (.bool (decide (ts = us))) ∧ Below w.heap.size w w' := by
  obtain ⟨A1, c1, rfl, hv'⟩ := hv
  obtain ⟨A2, c2, rfl, hu'⟩ := hu
  have HA := Lib.hid (show BoolRow w (.slice A1 ts.length c1) ts from ⟨A1, c1, rfl, hv'⟩)
  have HB := Lib.hid (show BoolRow w (.slice A2 us.length c2) us from ⟨A2, c2, rfl, hu'⟩)
  clear hv' hu'
  by_cases hlen : ts.length = us.length
  · have hb : ((ts.length : Int) != (us.length : Int)) = false := by simp [hlen]
    have HL := Lib.hid hlen
    clear hlen
    go_enter Tryz.func86, Tryz.ntmps86
    go_wp2
    go_loopg [13] (ts.length) (fun n v wr => ∃ (m : Nat), n = ts.length - m ∧ v = .int .i64 (m : Int) ∧ m ≤ ts.length ∧ ts.take m = us.take m ∧ Below w.heap.size w wr)
    case atStart => exact ⟨0, rfl, rfl, Nat.zero_le _, by simp, Below.refl _ _⟩
    case round =>
      obtain ⟨m, hn, rfl, hm, he, hbl⟩ := hrel
      have HN := Lib.hid hn
      have HE := Lib.hid he
      clear hn he
      by_cases hlt : m < ts.length
      · have hlt2 : m < us.length := by rw [← HL.out]; exact hlt
        have hi : (m : Int) < (ts.length : Int) := by omega
        have hi2 : (m : Int) < (us.length : Int) := by omega
        have hi0 : (0 : Int) ≤ (m : Int) := by omega
        have hmi : (m : Int) ≤ 1000000000 := by omega
        obtain ⟨g, off, rfl, hgl, t0⟩ := HA.out.cellAt hbl m hlt
        obtain ⟨g2, off2, rfl, hgl2, u0⟩ := HB.out.cellAt hbl m hlt2
        obtain ⟨t, ht⟩ : ∃ t, ts[m]'hlt = t := ⟨_, rfl⟩
        obtain ⟨x, hx⟩ : ∃ x, us[m]'hlt2 = x := ⟨_, rfl⟩
        rw [ht] at t0
        rw [hx] at u0
        have HT := Lib.hid ht
        have HX := Lib.hid hx
        clear ht hx
        cases hq : (t == x) with
        | true =>
          have htx : t = x := by simpa using hq
          have hq2 : (t != x) = false := by simp [htx]
          have HS := Lib.hid (take_step HE.out hlt hlt2 (by rw [HT.out, HX.out, htx]))
          clear htx
          go_wp2
          go_quiet (fail)
          go_wp2
          go_roundg (ts.length - (m + 1))
          case measure => have := HN.out; omega
          case rel => exact ⟨m + 1, rfl, by simp, hlt, HS.out, Below.drewN hbl _⟩
        | false =>
          have htx : t ≠ x := by simpa using hq
          have hq2 : (t != x) = true := by simp [bne, hq]
          have HS := Lib.hid (show decide (ts = us) = false by
            rw [decide_eq_false_iff_not]
            rintro rfl
            exact htx (HT.out.symm.trans HX.out))
          clear htx
          go_wp2
          go_quiet (fail)
          go_wp2
          go_ret
          rw [HS.out]
          exact ⟨rfl, Below.drewN hbl _⟩
      · have hi : ¬ (m : Int) < (ts.length : Int) := by omega
        have HS := Lib.hid (show decide (ts = us) = true by
          rw [decide_eq_true_eq]
          have h1 := HE.out
          rwa [List.take_of_length_le (by omega), List.take_of_length_le (by have := HL.out; omega)] at h1)
        go_wp2
        go_ret
        rw [HS.out]
        exact ⟨rfl, hbl⟩
  · have hb : ((ts.length : Int) != (us.length : Int)) = true := by simp; omega
    have HS := Lib.hid (show decide (ts = us) = false by
      rw [decide_eq_false_iff_not]
      rintro rfl
      exact hlen rfl)
    clear hlen
    go_enter Tryz.func86, Tryz.ntmps86
    go_wp2
    go_ret
    rw [HS.out]
    exact ⟨rfl, Below.refl _ _⟩


end Go.Proofs.YtdncljdfmdgdaaaGreatDoor

namespace Go.Proofs.YtdncljdfmdgdaaaGreatDoor
open Go.RowKit Go.Shelf
set_option linter.unusedSimpArgs false
set_option linter.unusedVariables false

def QTyOk (t : Sx.Ty) : Prop := ∀ (u : Sx.Ty) (v x : Value) (W : World), Sx.size t ≤ 1000000 → Sx.size u ≤ 1000000 → IsTy W v t → IsTy W x u →
  Calls Tryz.prog 45 #[v, x] W fun e W' => e = .returned (.bool (Sx.eqT t u)) ∧ Below W.heap.size W W'
def QTysOk (l : List Sx.Ty) : Prop := ∀ (m : List Sx.Ty) (v x : Value) (W : World), Sx.sizeL l ≤ 1000000 → Sx.sizeL m ≤ 1000000 → TyRow W v l → TyRow W x m →
  Calls Tryz.prog 87 #[v, x, .func (.func 45) #[] #[]] W fun e W' => e = .returned (.bool (Sx.eqTs l m)) ∧ Below W.heap.size W W'

set_option maxRecDepth 100000 in
set_option maxHeartbeats 8000000 in
theorem eqTypes (l : List Sx.Ty) (ih : ∀ t ∈ l, QTyOk t) : QTysOk l := by
  intro m v x W hz1 hz2 hv hx
  have hl1 := Sx.length_size l
  have hl2 := Sx.length_size m
  obtain ⟨A1, c1, rfl, hca, hra⟩ := hv
  obtain ⟨A2, c2, rfl, hcb, hrb⟩ := hx
  have HV := Lib.hid (show TyRow W (.slice A1 l.length c1) l from ⟨A1, c1, rfl, hca, hra⟩)
  have HX := Lib.hid (show TyRow W (.slice A2 m.length c2) m from ⟨A2, c2, rfl, hcb, hrb⟩)
  clear hca hra hcb hrb
  obtain ⟨k, hk⟩ : ∃ k, l.length = k := ⟨_, rfl⟩
  obtain ⟨j, hj⟩ : ∃ j, m.length = j := ⟨_, rfl⟩
  rw [hk] at HV ⊢
  rw [hj] at HX ⊢
  have k0 : (0 : Int) ≤ (k : Int) := by omega
  have k1 : (k : Int) ≤ 1000000 := by omega
  have j0 : (0 : Int) ≤ (j : Int) := by omega
  have j1 : (j : Int) ≤ 1000000 := by omega
  have HK := Lib.hid hk
  have HJ := Lib.hid hj
  have HZ1 := Lib.hid hz1
  have HZ2 := Lib.hid hz2
  have HIH := Lib.hid ih
  obtain ⟨L, hL⟩ : ∃ L, W.heap.size = L := ⟨_, rfl⟩
  have HL := Lib.hid hL
  clear hk hj hl1 hl2 hz1 hz2 ih hL
  by_cases hkj : k = j
  · subst hkj
    have HLE := Lib.hid (show m.length = k from HJ.out)
    go_enter Tryz.func87, Tryz.ntmps87
    go_wp2_with fail
    go_loopg [17] k (fun i v wr => ∃ (q : Nat), i = k - q ∧ v = .int .i64 (q : Int) ∧ q ≤ k ∧ l.take q = m.take q ∧ Below L W wr)
    case atStart => exact ⟨0, rfl, rfl, Nat.zero_le _, by simp, Below.refl _ _⟩
    case round =>
      obtain ⟨q, hi, rfl, hq, he, hb⟩ := hrel
      have HI := Lib.hid hi
      have HE := Lib.hid he
      have HB := Lib.hid hb
      have q0 : (0 : Int) ≤ (q : Int) := by omega
      have hLs : L ≤ wr.heap.size := by have := hb.size; have := HL.out; omega
      clear hi he hb
      by_cases hlt : q < k
      · have hqi : (q : Int) < (k : Int) := by omega
        have hq1 : q < l.length := by have := HK.out; omega
        have hq2 : q < m.length := by have := HLE.out; omega
        obtain ⟨g, off, An, cn, Ae, ce, Aq, cq, rfl, hty, hc5⟩ := HV.out.spot q hq1
        obtain ⟨gy, off2, Bn, dn, Be, de, Bq, dq, rfl, hty2, hd5⟩ := HX.out.spot q hq2
        rw [HL.out] at hc5 hd5
        obtain ⟨hg, x0, x1, x2, x3, x4⟩ := hc5 wr HB.out
        obtain ⟨hg2, y0, y1, y2, y3, y4⟩ := hd5 wr HB.out
        have hts := fun h : l[q]'hq1 = m[q]'hq2 => take_step HE.out hq1 hq2 h
        have hsm := Sx.size_mem (List.getElem_mem hq1)
        have hsm2 := Sx.size_mem (List.getElem_mem hq2)
        have hmem := List.getElem_mem hq1
        have hne : l[q]'hq1 ≠ m[q]'hq2 → Sx.eqTs l m = false := fun h => by
          cases hh : Sx.eqTs l m with
          | false => rfl
          | true => have := (Sx.eqTs_iff l m).1 hh; subst this; exact absurd rfl h
        obtain ⟨p, hp⟩ : ∃ p, l[q]'hq1 = p := ⟨_, rfl⟩
        obtain ⟨p2, hp2⟩ : ∃ p, m[q]'hq2 = p := ⟨_, rfl⟩
        rw [hp] at x0 x1 x2 x3 x4 hty hsm hmem
        rw [hp2] at y0 y1 y2 y3 y4 hty2 hsm2
        rw [hp, hp2] at hts hne
        obtain ⟨w2, hw2⟩ : ∃ w2, wr.alloc (.cells #[.int .i64 p.kind, .string ⟨p.name.toArray⟩, .slice An p.names.length cn, .slice Ae p.embeds.length ce, .slice Aq p.parts.length cq] 26) = w2 := ⟨_, rfl⟩
        obtain ⟨w3, hw3⟩ : ∃ w3, w2.alloc (.cells #[.int .i64 p2.kind, .string ⟨p2.name.toArray⟩, .slice Bn p2.names.length dn, .slice Be p2.embeds.length de, .slice Bq p2.parts.length dq] 26) = w3 := ⟨_, rfl⟩
        have g2 := World.grownBy_alloc wr (.cells #[.int .i64 p.kind, .string ⟨p.name.toArray⟩, .slice An p.names.length cn, .slice Ae p.embeds.length ce, .slice Aq p.parts.length cq] 26) none
        have b2 := heap_alloc_new wr (.cells #[.int .i64 p.kind, .string ⟨p.name.toArray⟩, .slice An p.names.length cn, .slice Ae p.embeds.length ce, .slice Aq p.parts.length cq] 26)
        rw [hw2] at g2 b2
        have g3 := World.grownBy_alloc w2 (.cells #[.int .i64 p2.kind, .string ⟨p2.name.toArray⟩, .slice Bn p2.names.length dn, .slice Be p2.embeds.length de, .slice Bq p2.parts.length dq] 26) none
        have b3 := heap_alloc_new w2 (.cells #[.int .i64 p2.kind, .string ⟨p2.name.toArray⟩, .slice Bn p2.names.length dn, .slice Be p2.embeds.length de, .slice Bq p2.parts.length dq] 26)
        rw [hw3] at g3 b3
        obtain ⟨u0, u1, u2, u3, u4⟩ := five_cells (((grown_below g3).block _ (lt_of_block b2)).trans b2)
        obtain ⟨z0, z1, z2, z3, z4⟩ := five_cells b3
        have lz := lt_of_block b3
        have lu : wr.heap.size < w3.heap.size := Nat.lt_of_lt_of_le (lt_of_block b2) g3.size
        have up2 : ∀ {jj : Nat} {vv : Value}, wr.cell? ⟨gy, jj, none⟩ = some vv → w2.cell? ⟨gy, jj, none⟩ = some vv := fun {jj vv} h => (World.cell?_of_block ((grown_below g2).block gy hg2)).trans h
        replace y0 := up2 y0
        replace y1 := up2 y1
        replace y2 := up2 y2
        replace y3 := up2 y3
        replace y4 := up2 y4
        have hbw : Below W.heap.size W w3 := by rw [HL.out]; exact (HB.out.trans ((grown_below g2).mono hLs)).trans ((grown_below g3).mono (Nat.le_trans hLs g2.size))
        have HBW := Lib.hid (show Below L W w3 by rw [← HL.out]; exact hbw)
        have hre := HIH.out p hmem p2 _ _ w3 (by have := HZ1.out; omega) (by have := HZ2.out; omega) (IsTy.below hbw _ _ hty) (IsTy.below hbw _ _ hty2)
        have HRE := Lib.hid hre
        have HTS := Lib.hid hts
        have HNE := Lib.hid hne
        have hL3 : L ≤ w3.heap.size := by omega
        clear up2 g2 g3 b2 b3 hty hty2 hc5 hd5 hsm hsm2 hmem hp hp2 hbw hre hts hne
        cases hc : Sx.eqT p p2 with
        | true =>
          rw [hc] at HRE
          have HEQ := Lib.hid (HTS.out ((Sx.eqT_iff p p2).1 hc))
          clear hc
          go_wp2_with fail
          refine HRE.out.mono ?_
          rintro e w5 ⟨rfl, hb5⟩
          have HB5 := Lib.hid (HBW.out.trans (hb5.mono hL3))
          clear hb5
          go_wp2_with fail
          go_roundg (k - (q + 1))
          case measure => have := HI.out; omega
          case rel => exact ⟨q + 1, rfl, by simp, hlt, HEQ.out, HB5.out⟩
        | false =>
          rw [hc] at HRE
          have HF := Lib.hid (HNE.out (fun h => by have := (Sx.eqT_iff p p2).2 h; rw [hc] at this; cases this))
          clear hc
          go_wp2_with fail
          refine HRE.out.mono ?_
          rintro e w5 ⟨rfl, hb5⟩
          have HB5 := Lib.hid (HBW.out.trans (hb5.mono hL3))
          clear hb5
          go_wp2_with fail
          go_ret
          rw [HF.out, HL.out]
          exact ⟨rfl, HB5.out⟩
      · have hqi : ¬ (q : Int) < (k : Int) := by omega
        have HF := Lib.hid (show Sx.eqTs l m = true by
          have h := HE.out
          rw [List.take_of_length_le (by have := HK.out; omega), List.take_of_length_le (by have := HLE.out; omega)] at h
          exact (Sx.eqTs_iff l m).2 h)
        go_wp2_with fail
        go_ret
        rw [HF.out, HL.out]
        exact ⟨rfl, HB.out⟩
  · have hb : ((k : Int) != (j : Int)) = true := by rw [bne_iff_ne]; omega
    have HF := Lib.hid (show Sx.eqTs l m = false by
      cases hh : Sx.eqTs l m with
      | false => rfl
      | true => have := (Sx.eqTs_iff l m).1 hh; subst this; have := HK.out; have := HJ.out; omega)
    go_enter Tryz.func87, Tryz.ntmps87
    go_wp2_with fail
    go_ret
    rw [HF.out]
    exact ⟨rfl, Below.refl _ _⟩

set_option maxRecDepth 100000 in
set_option maxHeartbeats 8000000 in
theorem eqType1 (t : Sx.Ty) (ih : QTysOk t.parts) : QTyOk t := by
  intro u v x W hz1 hz2 hv hx
  have hs1 := Sx.size_parts t
  have hs2 := Sx.size_parts u
  have hp1 := Sx.length_size t.parts
  have hp2 := Sx.length_size u.parts
  have heq := Sx.eqT_parts t u
  obtain ⟨An, cn, Ae, ce, Ap, cp, rfl, h1, h2, h3⟩ := hv.agg
  obtain ⟨Bn, dn, Be, de, Bp, dp, rfl, h4, h5, h6⟩ := hx.agg
  have hT := fun X (hX : Below W.heap.size W X) => eqTexts t.names u.names _ _ X (h1.below hX) (h4.below hX) (by omega) (by omega)
  have hB := fun X (hX : Below W.heap.size W X) => eqBools t.embeds u.embeds _ _ X (h2.below hX) (h5.below hX) (by omega) (by omega)
  have hP := fun X (hX : Below W.heap.size W X) => ih u.parts _ _ X (by omega) (by omega) (h3.below hX) (h6.below hX)
  obtain ⟨b1, e1⟩ : ∃ b, (t.kind == u.kind) = b := ⟨_, rfl⟩
  obtain ⟨b2, e2⟩ : ∃ b, (t.name == u.name) = b := ⟨_, rfl⟩
  obtain ⟨b3, e3⟩ : ∃ b, decide (t.names = u.names) = b := ⟨_, rfl⟩
  obtain ⟨b4, e4⟩ : ∃ b, decide (t.embeds = u.embeds) = b := ⟨_, rfl⟩
  obtain ⟨b5, e5⟩ : ∃ b, Sx.eqTs t.parts u.parts = b := ⟨_, rfl⟩
  rw [e1, e2, e3, e4, e5] at heq
  rw [e3] at hT
  rw [e4] at hB
  rw [e5] at hP
  rw [heq]
  obtain ⟨kt, hkt⟩ : ∃ k, t.kind = k := ⟨_, rfl⟩
  obtain ⟨ku, hku⟩ : ∃ k, u.kind = k := ⟨_, rfl⟩
  obtain ⟨nt, hnt⟩ : ∃ k, t.name = k := ⟨_, rfl⟩
  obtain ⟨nu, hnu⟩ : ∃ k, u.name = k := ⟨_, rfl⟩
  rw [hkt, hku] at e1
  rw [hnt, hnu] at e2
  rw [hkt, hku, hnt, hnu]
  obtain ⟨L, hL⟩ : ∃ L, W.heap.size = L := ⟨_, rfl⟩
  obtain ⟨w2, hw2⟩ : ∃ w2, W.alloc (.cells #[.int .i64 kt, .string ⟨nt.toArray⟩, .slice An t.names.length cn, .slice Ae t.embeds.length ce, .slice Ap t.parts.length cp] 26) = w2 := ⟨_, rfl⟩
  obtain ⟨L5, hL5⟩ : ∃ L5, w2.heap.size = L5 := ⟨_, rfl⟩
  obtain ⟨w3, hw3⟩ : ∃ w3, w2.alloc (.cells #[.int .i64 ku, .string ⟨nu.toArray⟩, .slice Bn u.names.length dn, .slice Be u.embeds.length de, .slice Bp u.parts.length dp] 26) = w3 := ⟨_, rfl⟩
  have g2 := World.grownBy_alloc W (.cells #[.int .i64 kt, .string ⟨nt.toArray⟩, .slice An t.names.length cn, .slice Ae t.embeds.length ce, .slice Ap t.parts.length cp] 26) none
  have x2 := heap_alloc_new W (.cells #[.int .i64 kt, .string ⟨nt.toArray⟩, .slice An t.names.length cn, .slice Ae t.embeds.length ce, .slice Ap t.parts.length cp] 26)
  rw [hw2] at g2 x2
  have g3 := World.grownBy_alloc w2 (.cells #[.int .i64 ku, .string ⟨nu.toArray⟩, .slice Bn u.names.length dn, .slice Be u.embeds.length de, .slice Bp u.parts.length dp] 26) none
  have x3 := heap_alloc_new w2 (.cells #[.int .i64 ku, .string ⟨nu.toArray⟩, .slice Bn u.names.length dn, .slice Be u.embeds.length de, .slice Bp u.parts.length dp] 26)
  rw [hw3] at g3 x3
  rw [hL] at x2
  rw [hL5] at x3
  have H3 := Lib.hid (show Held2 L W #[.int .i64 kt, .string ⟨nt.toArray⟩, .slice An t.names.length cn, .slice Ae t.embeds.length ce, .slice Ap t.parts.length cp] 26 L5 #[.int .i64 ku, .string ⟨nu.toArray⟩, .slice Bn u.names.length dn, .slice Be u.embeds.length de, .slice Bp u.parts.length dp] 26 w3 from ⟨by rw [← hL]; exact (grown_below g2).trans ((grown_below g3).mono g2.size), (g3.block L (lt_of_block x2) (fun e => nomatch e)).trans x2, x3⟩)
  have HT := Lib.hid hT
  have HB := Lib.hid hB
  have HP := Lib.hid hP
  have HL := Lib.hid hL
  clear hT hB hP g2 g3 x2 x3 heq hs1 hs2 hp1 hp2 h1 h2 h3 h4 h5 h6 e3 e4 e5 hkt hku hnt hnu hv hx ih hz1 hz2
  have h6 := HL.out
  obtain ⟨x0, x1, x2, x3, x4⟩ := five_cells H3.out.b1
  obtain ⟨y0, y1, y2, y3, y4⟩ := five_cells H3.out.b2
  obtain ⟨l1, l2⟩ := H3.out.lt
  cases b1 with
  | false =>
    go_enter Tryz.func45, Tryz.ntmps45
    go_wp2_with fail
    go_ret
    refine ⟨by first | rfl | simp, ?_⟩
    first | exact H3.out.b | (rw [HL.out]; exact H3.out.b)
  | true =>
    obtain rfl : kt = ku := by simpa using e1
    clear e1
    cases b2 with
    | false =>
      go_enter Tryz.func45, Tryz.ntmps45
      go_wp2_with fail
      go_ret
      refine ⟨by first | rfl | simp, ?_⟩
      first | exact H3.out.b | (rw [HL.out]; exact H3.out.b)
    | true =>
      obtain rfl : nt = nu := by simpa using e2
      clear e2
      cases b3 with
      | false =>
        go_enter Tryz.func45, Tryz.ntmps45
        go_wp2_with (go_at_call 85; refine (HT.out _ (by first | exact H3.out.b | (rw [HL.out]; exact H3.out.b))).mono ?_; rintro e w4 ⟨rfl, hb4⟩; have H4 := Lib.hid (H3.out.go hb4); clear hb4; clear x0 x1 x2 x3 x4 y0 y1 y2 y3 y4 l1 l2; obtain ⟨x0, x1, x2, x3, x4⟩ := five_cells H4.out.b1; obtain ⟨y0, y1, y2, y3, y4⟩ := five_cells H4.out.b2; obtain ⟨l1, l2⟩ := H4.out.lt)
        go_ret
        refine ⟨by first | rfl | simp, ?_⟩
        first | exact H4.out.b | (rw [HL.out]; exact H4.out.b)
      | true =>
        cases b4 with
        | false =>
          go_enter Tryz.func45, Tryz.ntmps45
          go_wp2_with (first | (go_at_call 85; refine (HT.out _ (by first | exact H3.out.b | (rw [HL.out]; exact H3.out.b))).mono ?_; rintro e w4 ⟨rfl, hb4⟩; have H4 := Lib.hid (H3.out.go hb4); clear hb4; clear x0 x1 x2 x3 x4 y0 y1 y2 y3 y4 l1 l2; obtain ⟨x0, x1, x2, x3, x4⟩ := five_cells H4.out.b1; obtain ⟨y0, y1, y2, y3, y4⟩ := five_cells H4.out.b2; obtain ⟨l1, l2⟩ := H4.out.lt) | (go_at_call 86; refine (HB.out _ (by first | exact H4.out.b | (rw [HL.out]; exact H4.out.b))).mono ?_; rintro e w5 ⟨rfl, hb5⟩; have H5 := Lib.hid (H4.out.go hb5); clear hb5; clear x0 x1 x2 x3 x4 y0 y1 y2 y3 y4 l1 l2; obtain ⟨x0, x1, x2, x3, x4⟩ := five_cells H5.out.b1; obtain ⟨y0, y1, y2, y3, y4⟩ := five_cells H5.out.b2; obtain ⟨l1, l2⟩ := H5.out.lt))
          go_ret
          refine ⟨by first | rfl | simp, ?_⟩
          first | exact H5.out.b | (rw [HL.out]; exact H5.out.b)
        | true =>
          cases b5 with
          | false =>
            go_enter Tryz.func45, Tryz.ntmps45
            go_wp2_with (first | (go_at_call 85; refine (HT.out _ (by first | exact H3.out.b | (rw [HL.out]; exact H3.out.b))).mono ?_; rintro e w4 ⟨rfl, hb4⟩; have H4 := Lib.hid (H3.out.go hb4); clear hb4; clear x0 x1 x2 x3 x4 y0 y1 y2 y3 y4 l1 l2; obtain ⟨x0, x1, x2, x3, x4⟩ := five_cells H4.out.b1; obtain ⟨y0, y1, y2, y3, y4⟩ := five_cells H4.out.b2; obtain ⟨l1, l2⟩ := H4.out.lt) | (go_at_call 86; refine (HB.out _ (by first | exact H4.out.b | (rw [HL.out]; exact H4.out.b))).mono ?_; rintro e w5 ⟨rfl, hb5⟩; have H5 := Lib.hid (H4.out.go hb5); clear hb5; clear x0 x1 x2 x3 x4 y0 y1 y2 y3 y4 l1 l2; obtain ⟨x0, x1, x2, x3, x4⟩ := five_cells H5.out.b1; obtain ⟨y0, y1, y2, y3, y4⟩ := five_cells H5.out.b2; obtain ⟨l1, l2⟩ := H5.out.lt) | (go_at_call 87; refine (HP.out _ (by first | exact H5.out.b | (rw [HL.out]; exact H5.out.b))).mono ?_; rintro e w6 ⟨rfl, hb6⟩; have H6 := Lib.hid (H5.out.go hb6); clear hb6; clear x0 x1 x2 x3 x4 y0 y1 y2 y3 y4 l1 l2; obtain ⟨x0, x1, x2, x3, x4⟩ := five_cells H6.out.b1; obtain ⟨y0, y1, y2, y3, y4⟩ := five_cells H6.out.b2; obtain ⟨l1, l2⟩ := H6.out.lt))
            go_ret
            refine ⟨by first | rfl | simp, ?_⟩
            first | exact H6.out.b | (rw [HL.out]; exact H6.out.b)
          | true =>
            go_enter Tryz.func45, Tryz.ntmps45
            go_wp2_with (first | (go_at_call 85; refine (HT.out _ (by first | exact H3.out.b | (rw [HL.out]; exact H3.out.b))).mono ?_; rintro e w4 ⟨rfl, hb4⟩; have H4 := Lib.hid (H3.out.go hb4); clear hb4; clear x0 x1 x2 x3 x4 y0 y1 y2 y3 y4 l1 l2; obtain ⟨x0, x1, x2, x3, x4⟩ := five_cells H4.out.b1; obtain ⟨y0, y1, y2, y3, y4⟩ := five_cells H4.out.b2; obtain ⟨l1, l2⟩ := H4.out.lt) | (go_at_call 86; refine (HB.out _ (by first | exact H4.out.b | (rw [HL.out]; exact H4.out.b))).mono ?_; rintro e w5 ⟨rfl, hb5⟩; have H5 := Lib.hid (H4.out.go hb5); clear hb5; clear x0 x1 x2 x3 x4 y0 y1 y2 y3 y4 l1 l2; obtain ⟨x0, x1, x2, x3, x4⟩ := five_cells H5.out.b1; obtain ⟨y0, y1, y2, y3, y4⟩ := five_cells H5.out.b2; obtain ⟨l1, l2⟩ := H5.out.lt) | (go_at_call 87; refine (HP.out _ (by first | exact H5.out.b | (rw [HL.out]; exact H5.out.b))).mono ?_; rintro e w6 ⟨rfl, hb6⟩; have H6 := Lib.hid (H5.out.go hb6); clear hb6; clear x0 x1 x2 x3 x4 y0 y1 y2 y3 y4 l1 l2; obtain ⟨x0, x1, x2, x3, x4⟩ := five_cells H6.out.b1; obtain ⟨y0, y1, y2, y3, y4⟩ := five_cells H6.out.b2; obtain ⟨l1, l2⟩ := H6.out.lt))
            go_ret
            refine ⟨by first | rfl | simp, ?_⟩
            first | exact H6.out.b | (rw [HL.out]; exact H6.out.b)
theorem eqTypeAll : ∀ (n : Nat) (t : Sx.Ty), Sx.size t ≤ n → QTyOk t
  | 0, t, h => by have := Sx.size_pos t; omega
  | n + 1, t, h => eqType1 t (eqTypes t.parts fun p hp => eqTypeAll n p (by
      have := Sx.size_mem hp
      have := Sx.size_parts t
      omega))

end Go.Proofs.YtdncljdfmdgdaaaGreatDoor

namespace Go.Proofs.YtdncljdfmdgdaaaGreatDoor
open Go.RowKit
set_option linter.unusedSimpArgs false
set_option linter.unusedVariables false

set_option maxRecDepth 100000 in
set_option maxHeartbeats 4000000 in
theorem synNodes : ∀ (n : Nat) (l : List Sx.Ty) (v : Value) (W : World), Sx.sizeL l ≤ n → n ≤ 1000000 → TyRow W v l →
    Calls Tryz.prog 15 #[v] W fun e W' => e = .returned (.int .i64 (Sx.nodesL l : Nat)) ∧ Below W.heap.size W W' := by
  intro n
  induction n using Nat.strongRecOn with
  | _ n ih =>
    intro l v W hn hn1 hv
    obtain ⟨A, c, rfl, hcap, hl⟩ := hv
    have hlen := Sx.length_size l
    have hnl := Sx.nodesL_size l
    have hli : (l.length : Int) ≤ 1000000 := by omega
    have HL := Lib.hid hl
    have HIH := Lib.hid ih
    clear ih hl
    go_enter Tryz.func15, Tryz.ntmps15
    go_wp2_with fail
    go_loopg [3, 8] (l.length) (fun i u v wr => ∃ (m k : Nat), i = l.length - m ∧ v = .int .i64 (m : Int) ∧ u = .int .i64 (k : Int) ∧ k = Sx.nodesL (l.take m) ∧ m ≤ l.length ∧ Below W.heap.size W wr)
    case atStart => exact ⟨0, 0, rfl, rfl, rfl, rfl, Nat.zero_le _, Below.refl _ _⟩
    case round =>
      obtain ⟨m, k, hi, rfl, rfl, hk, hm, hb⟩ := hrel
      have HI := Lib.hid hi
      have HK := Lib.hid hk
      have HB := Lib.hid hb
      have m0 : (0 : Int) ≤ (m : Int) := by omega
      have k0 : (0 : Int) ≤ (k : Int) := by omega
      have hkb : k ≤ 1000000 := by have := Sx.nodesL_take_le l m; omega
      have hki : (k : Int) ≤ 1000000 := by omega
      clear hi hk hb
      by_cases hlt : m < l.length
      · have hmi : (m : Int) < (l.length : Int) := by omega
        obtain ⟨g, off, v0, v1, v2, v3, v4, rfl, c0, c1, c2, c3, c4, ht⟩ := IsTys.at (IsTys.below HB.out l _ 0 HL.out) m hlt
        obtain ⟨t, hte⟩ : ∃ t, l[m]'hlt = t := ⟨_, rfl⟩
        have hmem : t ∈ l := by rw [← hte]; exact List.getElem_mem hlt
        rw [hte] at ht
        have HSZ := Lib.hid (Sx.parts_mem hmem)
        have HSM := Lib.hid (Sx.size_mem hmem)
        have HT := Lib.hid (Sx.nodes_take hlt)
        have HTE := Lib.hid hte
        obtain ⟨vn, ve, vp, hagg, hsn, hse, hsp⟩ := ht.limbs
        obtain ⟨An, cn, hvn, -⟩ := id hsn
        obtain ⟨Ae, ce, hve, -⟩ := id hse
        obtain ⟨Ap, cp, hvp, -, -⟩ := id hsp
        subst hvn hve hvp
        injection hagg with hagg
        simp only [Array.mk.injEq, List.cons.injEq, and_true] at hagg
        obtain ⟨rfl, rfl, rfl, rfl, rfl⟩ := hagg
        rw [Nat.zero_add] at c0 c1 c2 c3 c4
        have hgl := World.block_lt_of_cell? wr ⟨g, _, none⟩ c0
        simp only at hgl
        have HP := Lib.hid hsp
        have hnp := Sx.nodesL_size t.parts
        obtain ⟨np, hnpe⟩ : ∃ np, Sx.nodesL t.parts = np := ⟨_, rfl⟩
        have hnpi : (np : Int) ≤ 1000000 := by have := HSZ.out; omega
        have hnp0 : (0 : Int) ≤ (np : Int) := by omega
        have hnt := Sx.nodes_parts t
        have HNT := Lib.hid hnt
        have HNP := Lib.hid hnpe
        have hrec : ∀ X, Below wr.heap.size wr X → Calls Tryz.prog 15 #[.slice Ap t.parts.length cp] X fun e X' => e = .returned (.int .i64 (np : Int)) ∧ Below X.heap.size X X' := by
          intro X hX
          have := HIH.out (Sx.sizeL t.parts) (by have := HSZ.out; omega) t.parts _ X (Nat.le_refl _) (by have := HSZ.out; omega) (HP.out.below hX)
          rw [HNP.out] at this
          exact this
        have HREC := Lib.hid hrec
        obtain ⟨kd, hkd⟩ : ∃ kd, t.kind = kd := ⟨_, rfl⟩
        have HKD := Lib.hid hkd
        rw [hkd] at c0
        clear hsn hse hsp ht hnp hnpe hnt hrec hkd hte
        have hbx : Below wr.heap.size wr (wr.alloc (.cells #[.int .i64 kd, .string ⟨t.name.toArray⟩, .slice An t.names.length cn, .slice Ae t.embeds.length ce, .slice Ap t.parts.length cp] 26)) := grown_below (World.grownBy_alloc _ _ _)
        have hrc := HREC.out _ hbx
        by_cases h4 : kd = 4
        · have h4b : (kd != 4) = false := by simp [h4]
          have H4 := Lib.hid h4
          clear h4
          go_wp2_with (go_at_call 15; refine hrc.mono ?_; clear hrc; rintro e W5 ⟨rfl, hb5⟩)
          go_roundg (l.length - (m + 1))
          case measure => have := HI.out; omega
          case rel =>
            refine ⟨m + 1, k + np, rfl, by simp, by simp, ?_, hlt, (HB.out.trans (hbx.mono HB.out.size)).trans (hb5.mono (Nat.le_trans HB.out.size hbx.size))⟩
            rw [HT.out, HTE.out, HNT.out, HKD.out, H4.out, HNP.out, ← HK.out]
            simp
        · have h4b : (kd != 4) = true := by simp [h4]
          have H4 := Lib.hid h4
          clear h4
          go_wp2_with (go_at_call 15; refine hrc.mono ?_; clear hrc; rintro e W5 ⟨rfl, hb5⟩)
          go_roundg (l.length - (m + 1))
          case measure => have := HI.out; omega
          case rel =>
            refine ⟨m + 1, k + 1 + np, rfl, by simp, by simp, ?_, hlt, (HB.out.trans (hbx.mono HB.out.size)).trans (hb5.mono (Nat.le_trans HB.out.size hbx.size))⟩
            rw [HT.out, HTE.out, HNT.out, HKD.out, if_neg H4.out, HNP.out, ← HK.out]
            omega
      · have hmi : ¬ (m : Int) < (l.length : Int) := by omega
        go_wp2_with fail
        go_ret
        refine ⟨?_, HB.out⟩
        rw [HK.out, List.take_of_length_le (by omega)]
        rfl

set_option maxRecDepth 100000 in
set_option maxHeartbeats 4000000 in
theorem synDepth : ∀ (n : Nat) (l : List Sx.Ty) (v : Value) (W : World), Sx.sizeL l ≤ n → n ≤ 1000000 → TyRow W v l →
    Calls Tryz.prog 18 #[v] W fun e W' => e = .returned (.int .i64 (Sx.depthL l : Nat)) ∧ Below W.heap.size W W' := by
  intro n
  induction n using Nat.strongRecOn with
  | _ n ih =>
    intro l v W hn hn1 hv
    obtain ⟨A, c, rfl, hcap, hl⟩ := hv
    have hlen := Sx.length_size l
    have hnl := Sx.depthL_size l
    have hli : (l.length : Int) ≤ 1000000 := by omega
    have HL := Lib.hid hl
    have HIH := Lib.hid ih
    clear ih hl
    go_enter Tryz.func18, Tryz.ntmps18
    go_wp2_with fail
    go_loopg [3, 8] (l.length) (fun i u v wr => ∃ (m k : Nat), i = l.length - m ∧ v = .int .i64 (m : Int) ∧ u = .int .i64 (k : Int) ∧ k = Sx.depthL (l.take m) ∧ m ≤ l.length ∧ Below W.heap.size W wr)
    case atStart => exact ⟨0, 0, rfl, rfl, rfl, rfl, Nat.zero_le _, Below.refl _ _⟩
    case round =>
      obtain ⟨m, k, hi, rfl, rfl, hk, hm, hb⟩ := hrel
      have HI := Lib.hid hi
      have HK := Lib.hid hk
      have HB := Lib.hid hb
      have m0 : (0 : Int) ≤ (m : Int) := by omega
      have k0 : (0 : Int) ≤ (k : Int) := by omega
      have hkb : k ≤ 1000000 := by have := Sx.depthL_take_le l m; omega
      have hki : (k : Int) ≤ 1000000 := by omega
      clear hi hk hb
      by_cases hlt : m < l.length
      · have hmi : (m : Int) < (l.length : Int) := by omega
        obtain ⟨g, off, v0, v1, v2, v3, v4, rfl, c0, c1, c2, c3, c4, ht⟩ := IsTys.at (IsTys.below HB.out l _ 0 HL.out) m hlt
        obtain ⟨t, hte⟩ : ∃ t, l[m]'hlt = t := ⟨_, rfl⟩
        have hmem : t ∈ l := by rw [← hte]; exact List.getElem_mem hlt
        rw [hte] at ht
        have HSZ := Lib.hid (Sx.parts_mem hmem)
        have HSM := Lib.hid (Sx.size_mem hmem)
        have HT := Lib.hid (Sx.depth_take hlt)
        have HTE := Lib.hid hte
        obtain ⟨vn, ve, vp, hagg, hsn, hse, hsp⟩ := ht.limbs
        obtain ⟨An, cn, hvn, -⟩ := id hsn
        obtain ⟨Ae, ce, hve, -⟩ := id hse
        obtain ⟨Ap, cp, hvp, -, -⟩ := id hsp
        subst hvn hve hvp
        injection hagg with hagg
        simp only [Array.mk.injEq, List.cons.injEq, and_true] at hagg
        obtain ⟨rfl, rfl, rfl, rfl, rfl⟩ := hagg
        rw [Nat.zero_add] at c0 c1 c2 c3 c4
        have hgl := World.block_lt_of_cell? wr ⟨g, _, none⟩ c0
        simp only at hgl
        have HP := Lib.hid hsp
        have hnp := Sx.depthL_size t.parts
        obtain ⟨np, hnpe⟩ : ∃ np, Sx.depthL t.parts = np := ⟨_, rfl⟩
        have hnpi : (np : Int) ≤ 1000000 := by have := HSZ.out; omega
        have hnp0 : (0 : Int) ≤ (np : Int) := by omega
        have hnt := Sx.depth_parts t
        have HNT := Lib.hid hnt
        have HNP := Lib.hid hnpe
        have hrec : ∀ X, Below wr.heap.size wr X → Calls Tryz.prog 18 #[.slice Ap t.parts.length cp] X fun e X' => e = .returned (.int .i64 (np : Int)) ∧ Below X.heap.size X X' := by
          intro X hX
          have := HIH.out (Sx.sizeL t.parts) (by have := HSZ.out; omega) t.parts _ X (Nat.le_refl _) (by have := HSZ.out; omega) (HP.out.below hX)
          rw [HNP.out] at this
          exact this
        have HREC := Lib.hid hrec
        obtain ⟨kd, hkd⟩ : ∃ kd, t.kind = kd := ⟨_, rfl⟩
        have HKD := Lib.hid hkd
        rw [hkd] at c0
        clear hsn hse hsp ht hnp hnpe hnt hrec hkd hte
        have hbx : Below wr.heap.size wr (wr.alloc (.cells #[.int .i64 kd, .string ⟨t.name.toArray⟩, .slice An t.names.length cn, .slice Ae t.embeds.length ce, .slice Ap t.parts.length cp] 26)) := grown_below (World.grownBy_alloc _ _ _)
        have hrc := HREC.out _ hbx
        have hmx : max (k : Int) (1 + (np : Int)) = ((max k (1 + np) : Nat) : Int) := by omega
        have HMX := Lib.hid hmx
        clear hmx
        go_wp2_with (go_at_call 18; refine hrc.mono ?_; clear hrc; rintro e W5 ⟨rfl, hb5⟩)
        go_roundg (l.length - (m + 1))
        case measure => have := HI.out; omega
        case rel =>
          refine ⟨m + 1, max k (1 + np), rfl, by simp, ?_, ?_, hlt, (HB.out.trans (hbx.mono HB.out.size)).trans (hb5.mono (Nat.le_trans HB.out.size hbx.size))⟩
          · rw [HMX.out]
          · rw [HT.out, HTE.out, HNT.out, HNP.out, ← HK.out]
      · have hmi : ¬ (m : Int) < (l.length : Int) := by omega
        go_wp2_with fail
        go_ret
        refine ⟨?_, HB.out⟩
        rw [HK.out, List.take_of_length_le (by omega)]
        rfl

end Go.Proofs.YtdncljdfmdgdaaaGreatDoor

namespace Go.Proofs.YtdncljdfmdgdaaaGreatDoor.Lx
open Go

set_option linter.unusedSimpArgs false
/-! ### quoted, case by case -/
theorem quoted_esc (p : Nat) (c : UInt8) (t acc : Bytes) (k : Nat) : quoted p (92 :: c :: t) acc k = (if c.toNat == 110 then quoted p t (acc ++ [10]) (k + 2) else if c.toNat == 34 || c.toNat == 92 then quoted p t (acc ++ [c]) (k + 2) else .bad 12 (p + k + 1)) := rfl
theorem quoted_byte (p : Nat) (c : UInt8) (t acc : Bytes) (k : Nat) (e34 : c ≠ 34) (e92 : c ≠ 92) : quoted p (c :: t) acc k = (if c.toNat < 32 || 126 < c.toNat then Res.bad 12 (p + k) else quoted p t (acc ++ [c]) (k + 1)) := by
  rw [quoted.eq_def]
  split
  · cases ‹_ :: _ = []›
  · rename_i h1; injection h1 with h1 h2; exact absurd h1 e34
  · rename_i h1; injection h1 with h1 h2; exact absurd h1 e92
  · rename_i h1; injection h1 with h1 h2; exact absurd h1 e92
  · rename_i h1; injection h1 with h1 h2; subst h1; subst h2; rfl

/-- May a byte stand in a text? -/
def saidB (c : UInt8) : Bool := c.toNat == 10 || (decide (32 ≤ c.toNat) && decide (c.toNat ≤ 126))

theorem quoteIn_cons' (c : UInt8) (t : Bytes) : quoteIn (c :: t) = (if c.toNat == 10 then [92, 110] else if c.toNat == 34 || c.toNat == 92 then [92, c] else [c]) ++ quoteIn t := rfl

theorem u8ne {c : UInt8} {d : UInt8} : (c.toNat == d.toNat) = (c == d) := by
  rw [Bool.eq_iff_iff]; simp [UInt8.toNat_inj]

/-- What was cut as a text. -/
theorem quoted_form (p : Nat) (t : Tok) (n : Nat) : ∀ (m : Nat) (l acc : Bytes) (k : Nat), l.length ≤ m → quoted p l acc k = .ok t n →
    ∃ u x, l = quoteIn u ++ 34 :: x ∧ (∀ c ∈ u, saidB c = true) ∧ t = ⟨p, 5, acc ++ u, 0⟩ ∧ n = k + (quoteIn u).length + 1
  | m, [], acc, k, hm, h => by simp [quoted] at h
  | 0, c :: t', acc, k, hm, h => by simp at hm
  | m + 1, c :: t', acc, k, hm, h => by
    have hm' : t'.length ≤ m := by simpa using hm
    by_cases e34 : c = 34
    · subst e34
      simp [quoted] at h
      exact ⟨[], t', by simp [quoteIn], by simp, by simp [h.1], by simp [quoteIn, h.2]⟩
    · by_cases e92 : c = 92
      · subst e92
        cases t' with
        | nil => simp [quoted] at h
        | cons d t'' =>
          have hm2 : t''.length ≤ m := by simp at hm'; omega
          rw [quoted_esc] at h
          split at h
          · rename_i hd
            obtain ⟨u, x, e1, e2, e3, e4⟩ := quoted_form p t n m t'' _ _ hm2 h
            have hd' : d = 110 := UInt8.toNat_inj.1 (by simpa using hd)
            subst hd'
            refine ⟨10 :: u, x, ?_, ?_, ?_, ?_⟩
            · rw [quoteIn_cons', e1]; simp
            · intro c hc
              rcases List.mem_cons.1 hc with rfl | hc
              · rfl
              · exact e2 c hc
            · rw [e3]; simp
            · rw [quoteIn_cons', e4]; simp; omega
          · split at h
            · rename_i hn hd
              obtain ⟨u, x, e1, e2, e3, e4⟩ := quoted_form p t n m t'' _ _ hm2 h
              have h10 : (d.toNat == 10) = false := by
                simp only [Bool.or_eq_true, beq_iff_eq] at hd
                simp
                omega
              refine ⟨d :: u, x, ?_, ?_, ?_, ?_⟩
              · rw [quoteIn_cons', e1, h10, hd]; simp
              · intro c hc
                rcases List.mem_cons.1 hc with rfl | hc
                · simp only [Bool.or_eq_true, beq_iff_eq] at hd
                  unfold saidB
                  rcases hd with hd | hd <;> rw [hd] <;> rfl
                · exact e2 c hc
              · rw [e3]; simp
              · rw [quoteIn_cons', e4, h10, hd]; simp; omega
            · cases h
      · rw [quoted_byte p c t' acc k e34 e92] at h
        split at h
        · cases h
        · rename_i hc0
          obtain ⟨u, x, e1, e2, e3, e4⟩ := quoted_form p t n m t' _ _ hm' h
          have h34 : (c.toNat == 34) = false := by
            have := @u8ne c 34
            rw [show (34 : UInt8).toNat = 34 from rfl] at this
            rw [this]; simpa using e34
          have h92 : (c.toNat == 92) = false := by
            have := @u8ne c 92
            rw [show (92 : UInt8).toNat = 92 from rfl] at this
            rw [this]; simpa using e92
          have hr : 32 ≤ c.toNat ∧ c.toNat ≤ 126 := by
            simp only [Bool.or_eq_true, decide_eq_true_eq] at hc0
            omega
          have h10 : (c.toNat == 10) = false := by simp; omega
          refine ⟨c :: u, x, ?_, ?_, ?_, ?_⟩
          · rw [quoteIn_cons', e1, h10, h34, h92]; simp
          · intro d hd
            rcases List.mem_cons.1 hd with rfl | hd
            · unfold saidB; simp [hr]
            · exact e2 d hd
          · rw [e3]; simp
          · rw [quoteIn_cons', e4, h10, h34, h92]; simp; omega

theorem form_quoted (p : Nat) (x : Bytes) : ∀ (u acc : Bytes) (k : Nat), (∀ c ∈ u, saidB c = true) → quoted p (quoteIn u ++ 34 :: x) acc k = .ok ⟨p, 5, acc ++ u, 0⟩ (k + (quoteIn u).length + 1)
  | [], acc, k, _ => by simp [quoteIn, quoted]
  | c :: u, acc, k, h => by
    have hc := h c (List.mem_cons_self ..)
    have hu : ∀ c ∈ u, saidB c = true := fun d hd => h d (List.mem_cons_of_mem _ hd)
    rw [quoteIn_cons']
    by_cases h10 : (c.toNat == 10) = true
    · have hc' : c = 10 := UInt8.toNat_inj.1 (by simpa using h10)
      subst hc'
      show quoted p (92 :: 110 :: (quoteIn u ++ 34 :: x)) acc k = _
      rw [quoted_esc, if_pos (by rfl), form_quoted p x u _ _ hu]
      congr 1
      · simp
      · simp; omega
    · rw [if_neg h10]
      by_cases hq : (c.toNat == 34 || c.toNat == 92) = true
      · rw [if_pos hq]
        show quoted p (92 :: c :: (quoteIn u ++ 34 :: x)) acc k = _
        have hn : ¬ (c.toNat == 110) = true := by
          simp only [Bool.or_eq_true, beq_iff_eq] at hq ⊢
          omega
        rw [quoted_esc, if_neg hn, if_pos hq, form_quoted p x u _ _ hu]
        congr 1
        · simp
        · simp; omega
      · rw [if_neg hq]
        have e34 : c ≠ 34 := by rintro rfl; exact hq rfl
        have e92 : c ≠ 92 := by rintro rfl; exact hq rfl
        show quoted p (c :: (quoteIn u ++ 34 :: x)) acc k = _
        have hr : ¬ (decide (c.toNat < 32) || decide (126 < c.toNat)) = true := by
          unfold saidB at hc
          simp only [Bool.or_eq_true, Bool.and_eq_true, decide_eq_true_eq] at hc ⊢
          rcases hc with hc | hc
          · exact absurd hc h10
          · omega
        rw [quoted_byte p c _ acc k e34 e92, if_neg hr, form_quoted p x u _ _ hu]
        congr 1
        · simp
        · simp; omega

/-! ### a token's text -/
/-- A token without its place. -/
def Tok.bare (t : Tok) : Tok := { t with pos := 0 }

/-- 's' is the text of the token 't' (which has the place 0). -/
inductive Form : Bytes → Tok → Prop
  | name (c : UInt8) (s : Bytes) (hc : letter c = true) (hs : ∀ d ∈ c :: s, within d = true) (hl : (c :: s).length ≤ 32) : Form (c :: s) ⟨0, nameKind (c :: s), c :: s, 0⟩
  | number (c : UInt8) (s : Bytes) (hs : ∀ d ∈ c :: s, digit d = true) (hv : value (c :: s) ≤ 9223372036854775807) (hz : c = 48 → s = []) : Form (c :: s) ⟨0, 4, [], value (c :: s)⟩
  | text (u : Bytes) (hu : ∀ c ∈ u, saidB c = true) : Form (quote u) ⟨0, 5, u, 0⟩
  | two : Form [61, 61] ⟨0, 6, [61, 61], 0⟩
  | sign (c : UInt8) (hc : signs.contains c = true) : Form [c] ⟨0, 6, [c], 0⟩

/-- A rest that ends whatever stands ahead of it. -/
def Sep (x : Bytes) : Prop := ∀ c, x.head? = some c → within c = false ∧ c ≠ 61
/-- A rest that ends this one. -/
def After (s x : Bytes) (t : Tok) : Prop := (t.kind ≠ 5 → t.kind ≠ 6 → ∀ c, x.head? = some c → within c = false) ∧ (s = [61] → x.head? ≠ some 61)
theorem Sep.after {x : Bytes} (h : Sep x) (s : Bytes) (t : Tok) : After s x t := ⟨fun _ _ c hc => (h c hc).1, fun _ hc => (h 61 hc).2 rfl⟩
theorem sep_nil : Sep [] := fun c h => by cases h
theorem sep_cons {c : UInt8} {x : Bytes} (h1 : within c = false) (h2 : c ≠ 61) : Sep (c :: x) := fun d h => by injection h with h; subst h; exact ⟨h1, h2⟩

theorem takeWhile_all (f : UInt8 → Bool) : ∀ (s x : Bytes), (∀ c ∈ s, f c = true) → (∀ c, x.head? = some c → f c = false) → (s ++ x).takeWhile f = s
  | [], x, _, h => by
    cases x with
    | nil => rfl
    | cons c x => simp [List.takeWhile_cons, h c rfl]
  | a :: s, x, hs, h => by
    simp [List.takeWhile_cons, hs a (List.mem_cons_self ..), takeWhile_all f s x (fun c hc => hs c (List.mem_cons_of_mem _ hc)) h]
theorem takeWhile_split (f : UInt8 → Bool) : ∀ (l : Bytes), ∃ x, l = l.takeWhile f ++ x ∧ (∀ c ∈ l.takeWhile f, f c = true) ∧ (∀ c, x.head? = some c → f c = false)
  | [] => ⟨[], rfl, by simp, by simp⟩
  | a :: l => by
    by_cases ha : f a = true
    · obtain ⟨x, e1, e2, e3⟩ := takeWhile_split f l
      refine ⟨x, ?_, ?_, e3⟩
      · rw [List.takeWhile_cons, if_pos ha, List.cons_append, ← e1]
      · rw [List.takeWhile_cons, if_pos ha]
        intro c hc
        rcases List.mem_cons.1 hc with rfl | hc
        · exact ha
        · exact e2 c hc
    · refine ⟨a :: l, by rw [List.takeWhile_cons, if_neg ha]; rfl, by rw [List.takeWhile_cons, if_neg ha]; simp, ?_⟩
      intro c hc
      injection hc with hc
      subst hc
      simpa using ha

theorem digit_within {c : UInt8} (h : digit c = true) : within c = true := by simp [within, h]
theorem letter_within {c : UInt8} (h : letter c = true) : within c = true := by simp [within, h]
theorem letter_not_digit {c : UInt8} (h : letter c = true) : digit c = false := by
  simp only [letter, small, great, digit, Bool.or_eq_true, Bool.and_eq_true, decide_eq_true_eq] at *
  simp
  omega
theorem digit_not_letter {c : UInt8} (h : digit c = true) : letter c = false := by
  rw [← Bool.not_eq_true]
  intro h'
  rw [letter_not_digit h'] at h
  cases h
theorem sign_cases {c : UInt8} (h : signs.contains c = true) : letter c = false ∧ digit c = false ∧ (c.toNat == 34) = false ∧ c ≠ 47 ∧ blank c = false := by
  have : c = 40 ∨ c = 41 ∨ c = 123 ∨ c = 125 ∨ c = 59 ∨ c = 58 ∨ c = 44 ∨ c = 46 ∨ c = 61 ∨ c = 60 ∨ c = 43 ∨ c = 45 ∨ c = 42 := by simpa [signs] using h
  rcases this with rfl | rfl | rfl | rfl | rfl | rfl | rfl | rfl | rfl | rfl | rfl | rfl | rfl <;> decide

theorem form_cut {s x : Bytes} {t : Tok} (h : Form s t) (ha : After s x t) (p : Nat) : cut p (s ++ x) = .ok { t with pos := p } s.length := by
  cases h with
  | name c s hc hs hl =>
    have hk : nameKind (c :: s) ≠ 5 ∧ nameKind (c :: s) ≠ 6 := by
      unfold nameKind
      split
      · decide
      · split <;> decide
    have ht := takeWhile_all within (c :: s) x hs (ha.1 (by have := hk.1; show ((nameKind (c :: s) : Nat) : Int) ≠ 5; omega) (by have := hk.2; show ((nameKind (c :: s) : Nat) : Int) ≠ 6; omega))
    show cut p (c :: (s ++ x)) = _
    simp only [cut, hc, if_true, cutName]
    rw [show c :: (s ++ x) = (c :: s) ++ x from rfl, ht]
    rw [if_neg (by omega)]
  | number c s hs hv hz =>
    have hd := hs c (List.mem_cons_self ..)
    have hx := ha.1 (by simp) (by simp)
    have ht := takeWhile_all digit (c :: s) x hs (fun d hd' => by
      have := hx d hd'
      simp only [within, Bool.or_eq_false_iff] at this
      exact this.1.2)
    show cut p (c :: (s ++ x)) = _
    simp only [cut, digit_not_letter hd, hd, if_true, cutNumber, Bool.false_eq_true, if_false]
    rw [show c :: (s ++ x) = (c :: s) ++ x from rfl, ht]
    rw [if_neg]
    simp only [List.drop_left, Bool.or_eq_true, not_or, Bool.and_eq_true, decide_eq_true_eq]
    refine ⟨⟨by omega, ?_⟩, ?_⟩
    · rintro ⟨h1, h2⟩
      have : c = 48 := by simpa using h1
      rw [hz this] at h2
      simp at h2
    · cases hx' : x.head? with
      | none => simp
      | some d => simp [hx d hx']
  | text u hu =>
    show cut p (34 :: (quoteIn u ++ [34] ++ x)) = _
    have : cut p (34 :: (quoteIn u ++ [34] ++ x)) = quoted p (quoteIn u ++ [34] ++ x) [] 1 := rfl
    rw [this, show quoteIn u ++ [34] ++ x = quoteIn u ++ 34 :: x by simp, form_quoted p x u [] 1 hu]
    simp [quote]
    omega
  | two => rfl
  | sign c hc =>
    obtain ⟨h1, h2, h3, -⟩ := sign_cases hc
    show cut p (c :: x) = _
    simp only [cut, h1, h2, h3, Bool.false_eq_true, if_false]
    rw [if_neg]
    · rfl
    · simp only [Bool.and_eq_true, beq_iff_eq, not_and]
      intro h61
      have : c = 61 := UInt8.toNat_inj.1 h61
      subst this
      exact ha.2 rfl

theorem cut_form {p : Nat} {l : Bytes} {t : Tok} {n : Nat} (hb : ∀ c, l.head? = some c → begins c = true) (h : cut p l = .ok t n) :
    ∃ s x, l = s ++ x ∧ s.length = n ∧ Form s t.bare ∧ After s x t.bare ∧ t = { t.bare with pos := p } := by
  cases l with
  | nil => simp [cut] at h
  | cons b l =>
    have hb0 := hb b rfl
    simp only [cut] at h
    split at h
    · rename_i hl
      unfold cutName at h
      simp only at h
      obtain ⟨x, e1, e2, e3⟩ := takeWhile_split within (b :: l)
      have hcons : (b :: l).takeWhile within = b :: l.takeWhile within := by rw [List.takeWhile_cons, if_pos (letter_within hl)]
      rw [hcons] at e1 e2 h
      split at h
      · cases h
      · rename_i hle
        injection h with h1 h2
        subst h1
        exact ⟨_, x, e1, h2, .name b _ hl e2 (by omega), ⟨fun _ _ => e3, fun h61 hx => by
          injection h61 with h61 _
          subst h61
          cases hl⟩, rfl⟩
    · rename_i hl
      split at h
      · rename_i hd
        unfold cutNumber at h
        simp only at h
        obtain ⟨x, e1, e2, e3⟩ := takeWhile_split digit (b :: l)
        have hcons : (b :: l).takeWhile digit = b :: l.takeWhile digit := by rw [List.takeWhile_cons, if_pos hd]
        rw [hcons] at e1 e2 h
        split at h
        · cases h
        · rename_i hno
          injection h with h1 h2
          subst h1
          simp only [Bool.or_eq_true, not_or, Bool.and_eq_true, decide_eq_true_eq] at hno
          obtain ⟨⟨hv, hz⟩, hw⟩ := hno
          have hdrop : (b :: l).drop (b :: l.takeWhile digit).length = x := by
            conv => lhs; rw [e1]
            rw [List.drop_left]
          rw [hdrop] at hw
          refine ⟨_, x, e1, h2, .number b _ e2 (by omega) ?_, ⟨fun _ _ c hc => ?_, fun h61 hx => ?_⟩, rfl⟩
          · intro h48
            subst h48
            cases hts : l.takeWhile digit with
            | nil => rfl
            | cons => exact absurd ⟨rfl, by rw [hts]; simp⟩ hz
          · rw [hc] at hw
            simpa using hw
          · injection h61 with h61 _
            subst h61
            cases hd
      · rename_i hd
        split at h
        · rename_i h34
          have hb34 : b = 34 := UInt8.toNat_inj.1 (by simpa using h34)
          subst hb34
          obtain ⟨u, x, e1, e2, e3, e4⟩ := quoted_form p t n _ l [] 1 (Nat.le_refl _) h
          refine ⟨quote u, x, ?_, ?_, ?_, ?_, ?_⟩
          · rw [e1]; simp [quote]
          · rw [e4]; simp [quote]; omega
          · rw [e3]; exact .text u e2
          · refine ⟨fun h5 => absurd (by rw [e3]; rfl) h5, fun h61 => ?_⟩
            injection h61 with h61 _
            cases h61
          · rw [e3]; rfl
        · rename_i h34
          have hsg : signs.contains b = true := by
            unfold begins at hb0
            simp only [Bool.or_eq_true] at hb0
            rcases hb0 with ((h | h) | h) | h
            · exact absurd h hl
            · exact absurd h hd
            · exact absurd h h34
            · exact h
          split at h
          · rename_i h61
            injection h with h1 h2
            subst h1
            simp only [Bool.and_eq_true, beq_iff_eq] at h61
            have hb61 : b = 61 := UInt8.toNat_inj.1 h61.1
            subst hb61
            cases l with
            | nil => cases h61.2
            | cons d l =>
              have : d = 61 := by simpa using h61.2
              subst this
              exact ⟨[61, 61], l, rfl, h2, .two, ⟨fun _ h6 => absurd rfl h6, fun he => by cases he⟩, rfl⟩
          · rename_i h61
            injection h with h1 h2
            subst h1
            refine ⟨[b], l, rfl, h2, .sign b hsg, ⟨fun _ h6 => absurd rfl h6, fun he hx => ?_⟩, rfl⟩
            injection he with he
            subst he
            exact h61 (by simp [hx])

/-! ### decimal digits -/
theorem decDigits_step (u : Nat) (h : 10 ≤ u) : Lib.decDigits u = Lib.decDigits (u / 10) ++ [UInt8.ofNat (48 + u % 10)] := by
  conv => lhs; rw [Lib.decDigits, dif_neg (by omega)]
theorem digit_back {c : UInt8} (h : digit c = true) : UInt8.ofNat (48 + (c.toNat - 48)) = c := by
  simp only [digit, Bool.and_eq_true, decide_eq_true_eq] at h
  rw [show 48 + (c.toNat - 48) = c.toNat by omega]
  exact UInt8.ofNat_toNat
theorem decDigits_fold : ∀ (l : Bytes) (v : Nat), 1 ≤ v → (∀ c ∈ l, digit c = true) → Lib.decDigits (l.foldl (fun v c => v * 10 + (c.toNat - 48)) v) = Lib.decDigits v ++ l
  | [], v, _, _ => by simp
  | c :: l, v, hv, hl => by
    have hc := hl c (List.mem_cons_self ..)
    have hc' := hc
    simp only [digit, Bool.and_eq_true, decide_eq_true_eq] at hc'
    rw [List.foldl_cons, decDigits_fold l _ (by omega) (fun d hd => hl d (List.mem_cons_of_mem _ hd)), decDigits_step _ (by omega)]
    rw [show (v * 10 + (c.toNat - 48)) / 10 = v by omega, show (v * 10 + (c.toNat - 48)) % 10 = c.toNat - 48 by omega, digit_back hc]
    simp
theorem decDigits_value {c : UInt8} {s : Bytes} (hs : ∀ d ∈ c :: s, digit d = true) (hz : c = 48 → s = []) : Lib.decDigits (value (c :: s)) = c :: s := by
  have hc := hs c (List.mem_cons_self ..)
  have hc' := hc
  simp only [digit, Bool.and_eq_true, decide_eq_true_eq] at hc'
  have h1 : Lib.decDigits (c.toNat - 48) = [c] := by rw [Lib.decDigits_one (by omega), digit_back hc]
  unfold value
  rw [List.foldl_cons, show 0 * 10 + (c.toNat - 48) = c.toNat - 48 by omega]
  by_cases h48 : c = 48
  · rw [hz h48]; exact h1
  · have : c.toNat ≠ 48 := fun e => h48 (UInt8.toNat_inj.1 e)
    rw [decDigits_fold s _ (by omega) (fun d hd => hs d (List.mem_cons_of_mem _ hd)), h1]
    rfl
/-- The digits of a number: digits, no nought ahead, and their value. -/
theorem decDigits_form (u : Nat) : ∃ c s, Lib.decDigits u = c :: s ∧ (∀ d ∈ c :: s, digit d = true) ∧ value (c :: s) = u ∧ (c = 48 → s = [] ∧ u = 0) := by
  induction u using Nat.strongRecOn with
  | _ u ih =>
    have hd : ∀ m, m < 10 → digit (UInt8.ofNat (48 + m)) = true ∧ (UInt8.ofNat (48 + m)).toNat = 48 + m := by
      intro m hm
      have : (UInt8.ofNat (48 + m)).toNat = 48 + m := by rw [UInt8.toNat_ofNat', Nat.mod_eq_of_lt (by omega)]
      refine ⟨?_, this⟩
      simp only [digit, this, Bool.and_eq_true, decide_eq_true_eq]
      omega
    by_cases h : u < 10
    · refine ⟨UInt8.ofNat (48 + u), [], Lib.decDigits_one h, ?_, ?_, ?_⟩
      · intro d hd'
        rw [List.mem_singleton] at hd'
        subst hd'
        exact (hd u h).1
      · unfold value
        rw [List.foldl_cons, List.foldl_nil, (hd u h).2]
        omega
      · intro e
        refine ⟨rfl, ?_⟩
        have := (hd u h).2
        rw [e] at this
        have h48 : (48 : UInt8).toNat = 48 := rfl
        omega
    · obtain ⟨c, s, e1, e2, e3, e4⟩ := ih (u / 10) (by omega)
      refine ⟨c, s ++ [UInt8.ofNat (48 + u % 10)], ?_, ?_, ?_, ?_⟩
      · rw [decDigits_step u (by omega), e1]; simp
      · intro d hd'
        rw [← List.cons_append, List.mem_append] at hd'
        rcases hd' with hd' | hd'
        · exact e2 d hd'
        · rw [List.mem_singleton] at hd'
          subst hd'
          exact (hd _ (by omega)).1
      · rw [← List.cons_append]
        unfold value at e3 ⊢
        rw [List.foldl_append, e3]
        rw [List.foldl_cons, List.foldl_nil, (hd (u % 10) (by omega)).2]
        omega
      · intro e
        have := (e4 e).2
        omega

/-! ### written -/
theorem form_begins {s : Bytes} {t : Tok} (h : Form s t) : ∃ c l, s = c :: l ∧ begins c = true := by
  cases h with
  | name c s hc _ _ => exact ⟨c, s, rfl, by simp [begins, hc]⟩
  | number c s hs _ _ => exact ⟨c, s, rfl, by simp [begins, hs c (List.mem_cons_self ..)]⟩
  | text u _ => exact ⟨34, _, rfl, rfl⟩
  | two => exact ⟨61, _, rfl, rfl⟩
  | sign c hc => exact ⟨c, [], rfl, by simp only [begins, hc, Bool.or_true]⟩
theorem form_raw {s : Bytes} {t : Tok} (h : Form s t) : raw t = some s := by
  cases h with
  | name c s hc hs hl =>
    unfold raw
    rw [if_pos]
    unfold nameKind
    split
    · simp
    · split <;> simp
  | number c s hs hv hz =>
    unfold raw
    rw [if_neg (by simp), if_pos rfl, if_neg (by simp)]
    show some (Lib.decDigits (value (c :: s))) = _
    rw [decDigits_value hs hz]
  | text u hu => rfl
  | two => rfl
  | sign c hc => rfl
theorem raw_bare (t : Tok) : raw t.bare = raw t := rfl
theorem form_pos {s : Bytes} {t : Tok} (h : Form s t) : t.pos = 0 := by cases h <;> rfl
theorem written_of_form {s : Bytes} {t : Tok} (h : Form s t.bare) : written t = (s, true) := by
  have hr := form_raw h
  obtain ⟨c, l, rfl, hb⟩ := form_begins h
  rw [raw_bare] at hr
  have hc := form_cut h (sep_nil.after _ _) 0
  rw [List.append_nil] at hc
  unfold written
  rw [hr]
  simp only [hb, if_true, held, hc]
  simp [Tok.bare]
theorem form_of_written {t : Tok} (h : (written t).2 = true) : Form (written t).1 t.bare := by
  unfold written at h ⊢
  cases hr : raw t with
  | none => rw [hr] at h; cases h
  | some s =>
    rw [hr] at h
    cases s with
    | nil => cases h
    | cons c l =>
      simp only at h ⊢
      by_cases hb : begins c = true
      · rw [if_pos hb] at h ⊢
        unfold held at h
        cases hcut : cut 0 (c :: l) with
        | bad y x => simp [hcut] at h
        | ok x n =>
          simp only [hcut, Bool.and_eq_true, beq_iff_eq] at h
          obtain ⟨s, x', e1, e2, e3, e4, e5⟩ := cut_form (fun d hd => by injection hd with hd; subst hd; exact hb) hcut
          have hx : x' = [] := by
            have := congrArg List.length e1
            rw [List.length_append] at this
            exact List.length_eq_zero_iff.1 (by omega)
          rw [hx, List.append_nil] at e1
          rw [e1]
          have : x.bare = t.bare := by rw [h.2]; rfl
          rw [← this]
          exact e3
      · rw [if_neg hb] at h
        cases h

end Go.Proofs.YtdncljdfmdgdaaaGreatDoor.Lx

namespace Go.Proofs.YtdncljdfmdgdaaaGreatDoor.Lx
open Go

/-! ### blanks -/
theorem skip_app (x : Bytes) (c : UInt8) (r : Bytes) (h47 : c ≠ 47) : ∀ (m : Bool) (l : Bytes), skip m l = c :: r → skip m (l ++ x) = c :: (r ++ x)
  | m, [], h => by rw [skip_end] at h; cases h
  | false, a :: t, h => by
    unfold skip at h
    rw [List.cons_append]
    split at h
    · rename_i hb
      rw [skip_blank hb]
      exact skip_app x c r h47 false t h
    · rename_i hb
      have hb' : blank a = false := by simpa using hb
      split at h
      · rename_i hr
        simp only [Bool.and_eq_true, beq_iff_eq] at hr
        have hh : (t ++ x).head? = some 47 := by rw [List.head?_append, hr.2]; rfl
        rw [skip_remark hb' hr.1 hh]
        exact skip_app x c r h47 true t h
      · injection h with h1 h2
        subst h1; subst h2
        rw [skip_stays hb']
        rintro ⟨h1, -⟩
        exact h47 (UInt8.toNat_inj.1 h1)
  | true, a :: t, h => by
    unfold skip at h
    rw [List.cons_append]
    split at h
    · rename_i hb
      have hb' : a.toNat = 10 := by simpa using hb
      have h10 : skip true (a :: (t ++ x)) = skip false (t ++ x) := by simp [skip, hb']
      rw [h10]
      exact skip_app x c r h47 false t h
    · rename_i hb
      rw [skip_within (by simpa using hb)]
      exact skip_app x c r h47 true t h
theorem skip_nil_app (x : Bytes) : ∀ (m : Bool) (l : Bytes), skip m l = [] → skip m (l ++ 10 :: x) = skip false x
  | false, [], _ => by rw [List.nil_append, skip_blank (by rfl)]
  | true, [], _ => by simp [skip]
  | false, a :: t, h => by
    unfold skip at h
    rw [List.cons_append]
    split at h
    · rename_i hb
      rw [skip_blank hb]
      exact skip_nil_app x false t h
    · rename_i hb
      have hb' : blank a = false := by simpa using hb
      split at h
      · rename_i hr
        simp only [Bool.and_eq_true, beq_iff_eq] at hr
        have hh : (t ++ 10 :: x).head? = some 47 := by rw [List.head?_append, hr.2]; rfl
        rw [skip_remark hb' hr.1 hh]
        exact skip_nil_app x true t h
      · cases h
  | true, a :: t, h => by
    unfold skip at h
    rw [List.cons_append]
    split at h
    · rename_i hb
      have hb' : a.toNat = 10 := by simpa using hb
      have h10 : skip true (a :: (t ++ 10 :: x)) = skip false (t ++ 10 :: x) := by simp [skip, hb']
      rw [h10]
      exact skip_nil_app x false t h
    · rename_i hb
      rw [skip_within (by simpa using hb)]
      exact skip_nil_app x true t h
/-- What was skipped is blanks and remarks. -/
theorem skip_piece : ∀ (m : Bool) (l : Bytes), skip m (l.take (l.length - (skip m l).length)) = []
  | m, [] => by simp [skip_end]
  | false, a :: t => by
    by_cases hb : blank a = true
    · rw [skip_blank hb, List.length_cons, show t.length + 1 - (skip false t).length = (t.length - (skip false t).length) + 1 by have := skip_le false t; omega, List.take_succ_cons, skip_blank hb]
      exact skip_piece false t
    · have hb' : blank a = false := by simpa using hb
      by_cases hr : a.toNat = 47 ∧ t.head? = some 47
      · rw [skip_remark hb' hr.1 hr.2, List.length_cons, show t.length + 1 - (skip true t).length = (t.length - (skip true t).length) + 1 by have := skip_le true t; omega, List.take_succ_cons]
        cases t with
        | nil => cases hr.2
        | cons d t =>
          have hd : d = 47 := by simpa using hr.2
          subst hd
          have hlt : (skip true (47 :: t)).length ≤ t.length := by rw [skip_within (by decide)]; exact skip_le true t
          rw [skip_remark hb' hr.1]
          · exact skip_piece true (47 :: t)
          · rw [List.length_cons, show t.length + 1 - (skip true (47 :: t)).length = (t.length - (skip true (47 :: t)).length) + 1 by omega, List.take_succ_cons]
            rfl
      · rw [skip_stays hb' hr]
        simp [skip_end]
  | true, a :: t => by
    by_cases hb : a.toNat = 10
    · have h10 : ∀ t, skip true (a :: t) = skip false t := fun t => by simp [skip, hb]
      rw [h10, List.length_cons, show t.length + 1 - (skip false t).length = (t.length - (skip false t).length) + 1 by have := skip_le false t; omega, List.take_succ_cons, h10]
      exact skip_piece false t
    · rw [skip_within hb, List.length_cons, show t.length + 1 - (skip true t).length = (t.length - (skip true t).length) + 1 by have := skip_le true t; omega, List.take_succ_cons, skip_within hb]
      exact skip_piece true t

theorem begins_not {c : UInt8} (h : begins c = true) : blank c = false ∧ c ≠ 47 := by
  unfold begins at h
  simp only [Bool.or_eq_true] at h
  have key : ∀ n : Nat, c.toNat = n → (n ≠ 9 ∧ n ≠ 10 ∧ n ≠ 13 ∧ n ≠ 32 ∧ n ≠ 47) → blank c = false ∧ c ≠ 47 := by
    rintro n hn ⟨h1, h2, h3, h4, h5⟩
    refine ⟨?_, ?_⟩
    · unfold blank
      simp only [hn, Bool.or_eq_false_iff, beq_eq_false_iff_ne]
      exact ⟨⟨⟨h1, h2⟩, h3⟩, h4⟩
    · rintro rfl
      exact h5 hn.symm
  rcases h with ((h | h) | h) | h
  · simp only [letter, small, great, Bool.or_eq_true, Bool.and_eq_true, decide_eq_true_eq] at h
    exact key _ rfl (by omega)
  · simp only [digit, Bool.and_eq_true, decide_eq_true_eq] at h
    exact key _ rfl (by omega)
  · simp only [beq_iff_eq] at h
    exact key _ rfl (by omega)
  · exact ⟨(sign_cases h).2.2.2.2, (sign_cases h).2.2.2.1⟩
theorem skip_begins {c : UInt8} {l : Bytes} (h : begins c = true) : skip false (c :: l) = c :: l := skip_stays (begins_not h).1 (fun e => (begins_not h).2 (UInt8.toNat_inj.1 e.1))

/-! ### one round -/
theorem go_nil {f p i : Nat} {l : Bytes} (h : skip false l = []) : go (f + 1) p i l = ([], none) := by
  simp [go, h]
theorem go_tok {f p i : Nat} {l s x : Bytes} {t : Tok} (hs : skip false l = s ++ x) (hf : Form s t) (ha : After s x t) (hi : i ≠ 4096) :
    go (f + 1) p i l = ({ t with pos := ((p + (l.length - (s ++ x).length) : Nat) : Int) } :: (go f (p + (l.length - (s ++ x).length) + s.length) (i + 1) x).1, (go f (p + (l.length - (s ++ x).length) + s.length) (i + 1) x).2) := by
  obtain ⟨c, r, e, hb⟩ := form_begins hf
  have hcut := form_cut hf ha (p + (l.length - (s ++ x).length))
  rw [go]
  simp only [hs]
  rw [e, List.cons_append] at *
  simp only [hb, Bool.not_true, Bool.false_eq_true, if_false, hi, beq_iff_eq]
  rw [hcut]
  simp only
  rw [show (c :: (r ++ x)).drop (c :: r).length = x from List.drop_left (l₁ := c :: r)]
theorem go_inv {f p i : Nat} {l : Bytes} {ts : List Tok} (h : go (f + 1) p i l = (ts, none)) : (skip false l = [] ∧ ts = []) ∨
    ∃ s x t ts', skip false l = s ++ x ∧ Form s t ∧ After s x t ∧ i ≠ 4096 ∧ ts = { t with pos := ((p + (l.length - (s ++ x).length) : Nat) : Int) } :: ts' ∧ go f (p + (l.length - (s ++ x).length) + s.length) (i + 1) x = (ts', none) := by
  rw [go] at h
  simp only at h
  split at h
  · rename_i hr
    injection h with h1 h2
    exact .inl ⟨hr, h1.symm⟩
  · rename_i b r hr
    right
    by_cases hb : begins b = true
    · rw [hb] at h
      simp only [Bool.not_true, Bool.false_eq_true, if_false] at h
      by_cases hi : i = 4096
      · simp [hi] at h
      · simp only [beq_iff_eq, hi, if_false] at h
        split at h
        · injection h with h1 h2; cases h2
        · rename_i t n hcut
          rw [hr] at hcut
          obtain ⟨s, x, e1, e2, e3, e4, e5⟩ := cut_form (fun d hd => by injection hd with hd; subst hd; exact hb) hcut
          subst e2
          rw [hr, e1] at h
          rw [List.drop_left] at h
          injection h with h1 h2
          refine ⟨s, x, t.bare, _, by rw [hr, e1], e3, e4, hi, ?_, Prod.ext rfl h2⟩
          rw [← h1]
          congr 1
          rw [e5]
          rw [e1]
          rfl
    · simp [hb] at h

theorem form_len {s : Bytes} {t : Tok} (h : Form s t) : 0 < s.length := by
  obtain ⟨c, r, e, -⟩ := form_begins h
  rw [e]; simp
/-- More fuel changes nothing; nor does what was skipped ahead. -/
theorem go_fuel : ∀ (f f' p i : Nat) (l : Bytes), l.length < f → l.length < f' → go f p i l = go f' p i l
  | 0, _, _, _, _, h, _ => by omega
  | _, 0, _, _, _, _, h => by omega
  | f + 1, f' + 1, p, i, l, h, h' => by
    rw [go, go]
    simp only
    have hl := skip_le false l
    split
    · rfl
    · rename_i b r hr
      split
      · rfl
      · split
        · rfl
        · split
          · rfl
          · rename_i t n hcut
            obtain ⟨h1, h2⟩ := cut_len hcut
            rw [go_fuel f f' _ _ _ (by rw [List.length_drop]; omega) (by rw [List.length_drop]; omega)]
theorem go_ahead {f f' p p' i : Nat} {l l' : Bytes} (hs : skip false l = skip false l') (hp : p + (l.length - (skip false l).length) = p' + (l'.length - (skip false l').length)) (h : l.length < f) (h' : l'.length < f') : go f p i l = go f' p' i l' := by
  cases f with
  | zero => omega
  | succ f =>
    cases f' with
    | zero => omega
    | succ f' =>
      have hl := skip_le false l
      have hl' := skip_le false l'
      rw [go, go]
      simp only
      rw [hp, hs]
      split
      · rfl
      · rename_i b r hr
        rw [hs] at hl
        split
        · rfl
        · split
          · rfl
          · split
            · rfl
            · rename_i t n hcut
              obtain ⟨h1, h2⟩ := cut_len hcut
              rw [go_fuel f f' _ _ _ (by rw [List.length_drop]; omega) (by rw [List.length_drop]; omega)]

/-! ### a rest behind a line's end -/
theorem sep_line (b : Bytes) : Sep (10 :: b) := sep_cons (by decide) (by decide)
theorem After.line {s x : Bytes} {t : Tok} (h : After s x t) {y : Bytes} (hy : Sep y) : After s (x ++ y) t := by
  cases x with
  | nil => exact hy.after _ _
  | cons c x => exact h
theorem go_append (b : Bytes) : ∀ (f p i : Nat) (a : Bytes) (xs : List Tok), go f p i a = (xs, none) → a.length < f →
    go (f + b.length + 1) p i (a ++ 10 :: b) = (xs ++ (go (b.length + 1) (p + a.length + 1) (i + xs.length) b).1, (go (b.length + 1) (p + a.length + 1) (i + xs.length) b).2)
  | 0, _, _, _, _, _, h => by omega
  | f + 1, p, i, a, xs, h, hl => by
    rcases go_inv h with ⟨hs, rfl⟩ | ⟨s, x, t, ts', hs, hf, ha, hi, rfl, hg⟩
    · have hk := skip_nil_app b false a hs
      have hkl := skip_le false b
      rw [go_ahead (f' := b.length + 1) (p' := p + a.length + 1) (l' := b) hk (by rw [hk, List.length_append, List.length_cons]; omega) (by rw [List.length_append, List.length_cons]; omega) (by omega)]
      simp
    · obtain ⟨c, r, e, hb⟩ := form_begins hf
      have hsl := form_len hf
      have hle := skip_le false a
      rw [hs, List.length_append] at hle
      have hk : skip false (a ++ 10 :: b) = s ++ (x ++ 10 :: b) := by
        rw [e, List.cons_append] at hs
        rw [skip_app (10 :: b) c (r ++ x) (begins_not hb).2 false a hs, e]
        simp
      have ih := go_append b f _ (i + 1) x ts' hg (by omega)
      rw [show f + 1 + b.length + 1 = (f + b.length + 1) + 1 by omega, go_tok hk hf (ha.line (sep_line b)) hi]
      have hq : p + ((a ++ 10 :: b).length - (s ++ (x ++ 10 :: b)).length) = p + (a.length - (s ++ x).length) := by
        simp only [List.length_append, List.length_cons]
        omega
      rw [hq, ih]
      have hp2 : p + (a.length - (s ++ x).length) + s.length + x.length + 1 = p + a.length + 1 := by
        rw [List.length_append]
        omega
      rw [hp2, List.length_cons, show i + 1 + ts'.length = i + (ts'.length + 1) by omega]
      rfl
/-- Tokens at another place, behind others. -/
theorem go_shift : ∀ (f p i : Nat) (l : Bytes) (ts : List Tok), go f p i l = (ts, none) → ∀ p' i' : Nat, i' + ts.length ≤ 4096 → go f p' i' l = (ts.map fun t => { t with pos := t.pos - p + p' }, none)
  | 0, p, i, l, ts, h, p', i', _ => by
    rw [go] at h ⊢
    injection h with h1 h2
    subst h1
    rfl
  | f + 1, p, i, l, ts, h, p', i', hc => by
    rcases go_inv h with ⟨hs, rfl⟩ | ⟨s, x, t, ts', hs, hf, ha, hi, rfl, hg⟩
    · rw [go_nil hs]; rfl
    · rw [List.length_cons] at hc
      rw [go_tok hs hf ha (by omega), go_shift f _ _ x ts' hg _ (i' + 1) (by omega)]
      simp only [List.map_cons, Prod.mk.injEq, and_true, List.cons.injEq]
      refine ⟨?_, ?_⟩
      · congr 1
        omega
      · apply List.map_congr_left
        intro u _
        congr 1
        omega

/-! ### what every cut token is -/
/-- Each token has its place, its own text stands there; blanks and remarks alone between. 'l' is what stands from the place 'p' on. -/
theorem go_parts : ∀ (f p i : Nat) (l : Bytes) (ts : List Tok), go f p i l = (ts, none) → i ≤ 4096 → i + ts.length ≤ 4096 ∧ ∀ t ∈ ts, Form (written t).1 t.bare ∧ (written t).2 = true ∧ (written t).1.length ≤ l.length ∧ (p : Int) ≤ t.pos ∧ t.pos < p + l.length
  | 0, p, i, l, ts, h, hi => by
    rw [go] at h
    injection h with h1 h2
    subst h1
    exact ⟨by simpa using hi, by simp⟩
  | f + 1, p, i, l, ts, h, hi => by
    rcases go_inv h with ⟨hs, rfl⟩ | ⟨s, x, t, ts', hs, hf, ha, hi', rfl, hg⟩
    · exact ⟨by simpa using hi, by simp⟩
    · obtain ⟨h1, h2⟩ := go_parts f _ _ x ts' hg (by omega)
      have hle := skip_le false l
      have hsl := form_len hf
      rw [hs, List.length_append] at hle
      refine ⟨by rw [List.length_cons]; omega, ?_⟩
      intro u hu
      rcases List.mem_cons.1 hu with rfl | hu
      · have hb : Tok.bare { t with pos := ((p + (l.length - (s ++ x).length) : Nat) : Int) } = t := by
          have := form_pos hf
          cases t
          simp only [Tok.bare] at *
          subst this
          rfl
        have hw := written_of_form (t := { t with pos := ((p + (l.length - (s ++ x).length) : Nat) : Int) }) (s := s) (by rw [hb]; exact hf)
        rw [hw, hb]
        refine ⟨hf, rfl, by simp only; omega, by simp only; omega, ?_⟩
        simp only [List.length_append]
        omega
      · obtain ⟨a1, a2, a3, a4, a5⟩ := h2 u hu
        rw [List.length_append] at a4 a5
        exact ⟨a1, a2, by omega, by omega, by omega⟩

/-! ### join -/
theorem joinFrom_len : ∀ (ts : List Tok) (i : Nat) (b b' : Bytes), joinFrom i b ts = some b' → b.length ≤ b'.length ∧ ∀ t ∈ ts, (written t).2 = true
  | [], i, b, b', h => by
    unfold joinFrom at h
    injection h with h
    subst h
    exact ⟨Nat.le_refl _, by simp⟩
  | t :: ts, i, b, b', h => by
    unfold joinFrom at h
    split at h
    · rename_i hw
      obtain ⟨h1, h2⟩ := joinFrom_len ts _ _ _ h
      refine ⟨Nat.le_trans ?_ h1, ?_⟩
      · unfold joinStep
        split
        · exact Nat.le_refl _
        · split <;> simp <;> omega
      · intro u hu
        rcases List.mem_cons.1 hu with rfl | hu
        · exact hw
        · exact h2 u hu
    · cases h
/-- The tokens' texts, a blank ahead of each but the first. -/
def sepFrom : Nat → List Tok → Bytes
  | _, [] => []
  | i, t :: l => (if 0 < i then [32] else []) ++ ((written t).1 ++ sepFrom (i + 1) l)
theorem sepFrom_cons (i : Nat) (t : Tok) (l : List Tok) : sepFrom i (t :: l) = (if 0 < i then [32] else []) ++ ((written t).1 ++ sepFrom (i + 1) l) := rfl
theorem joinFrom_sep : ∀ (ts : List Tok) (i : Nat) (b b' : Bytes), joinFrom i b ts = some b' → b'.length ≤ 65536 → b' = b ++ sepFrom i ts
  | [], i, b, b', h, _ => by
    unfold joinFrom at h
    injection h with h
    subst h
    simp [sepFrom]
  | t :: ts, i, b, b', h, hl => by
    unfold joinFrom at h
    split at h
    · have hb : b.length ≤ 65536 := by
        have h1 := (joinFrom_len ts _ _ _ h).1
        unfold joinStep at h1
        split at h1
        · omega
        · split at h1 <;> simp at h1 <;> omega
      have := joinFrom_sep ts _ _ _ h hl
      rw [this, sepFrom_cons]
      unfold joinStep
      rw [if_neg (by omega)]
      split <;> simp
    · cases h
theorem sep_sepFrom (i : Nat) (ts : List Tok) (hi : 0 < i) : Sep (sepFrom i ts) := by
  cases ts with
  | nil => exact sep_nil
  | cons t ts =>
    unfold sepFrom
    rw [if_pos hi]
    exact sep_cons (by decide) (by decide)
theorem go_sep : ∀ (ts : List Tok) (i f p : Nat), (∀ t ∈ ts, (written t).2 = true) → i + ts.length ≤ 4096 → (sepFrom i ts).length < f →
    (go f p i (sepFrom i ts)).1.map Tok.bare = ts.map Tok.bare ∧ (go f p i (sepFrom i ts)).2 = none
  | ts, i, 0, p, _, _, h => by omega
  | [], i, f + 1, p, _, _, _ => by
    rw [go_nil (by unfold sepFrom; exact skip_end _)]
    exact ⟨rfl, rfl⟩
  | t :: ts, i, f + 1, p, hw, hc, hl => by
    have hf := form_of_written (hw t (List.mem_cons_self ..))
    obtain ⟨c, r, e, hb⟩ := form_begins hf
    have hsl := form_len hf
    have hs : skip false (sepFrom i (t :: ts)) = (written t).1 ++ sepFrom (i + 1) ts := by
      rw [sepFrom_cons, e]
      split
      · show skip false (32 :: (c :: (r ++ sepFrom (i + 1) ts))) = _
        rw [skip_blank (by rfl), skip_begins hb]; rfl
      · show skip false (c :: (r ++ sepFrom (i + 1) ts)) = _
        rw [skip_begins hb]; rfl
    rw [List.length_cons] at hc
    have hl' : (sepFrom (i + 1) ts).length < f := by
      have h1 : (sepFrom i (t :: ts)).length = (if 0 < i then [32] else [] : Bytes).length + ((written t).1.length + (sepFrom (i + 1) ts).length) := by rw [sepFrom, List.length_append, List.length_append]
      omega
    obtain ⟨h1, h2⟩ := go_sep ts (i + 1) f (p + ((sepFrom i (t :: ts)).length - ((written t).1 ++ sepFrom (i + 1) ts).length) + (written t).1.length) (fun u hu => hw u (List.mem_cons_of_mem _ hu)) (by omega) hl'
    rw [go_tok hs hf ((sep_sepFrom (i + 1) ts (by omega)).after _ _) (by omega)]
    exact ⟨by simp only [List.map_cons, h1]; rfl, h2⟩
/-- What is joined is cut into the same tokens. -/
theorem join_back {ts : List Tok} {b : Bytes} (h : join ts = (b, 0)) : (toks b).1.map Tok.bare = ts.map Tok.bare ∧ (toks b).2 = none := by
  unfold join at h
  split at h
  · injection h with h1 h2; cases h2
  · rename_i b' hj
    split at h
    · injection h with h1 h2; cases h2
    · rename_i hb
      split at h
      · injection h with h1 h2; cases h2
      · rename_i hc
        injection h with h1 h2
        subst h1
        have he := joinFrom_sep ts 0 [] b' hj (by omega)
        rw [List.nil_append] at he
        unfold toks
        rw [if_neg hb, he]
        exact go_sep ts 0 _ 0 (joinFrom_len ts _ _ _ hj).2 (by omega) (by omega)
theorem join_written : ∀ (ts : List Tok) (i : Nat) (b : Bytes), (∀ t ∈ ts, (written t).2 = true) → ∃ b', joinFrom i b ts = some b'
  | [], i, b, _ => ⟨b, rfl⟩
  | t :: ts, i, b, h => by
    unfold joinFrom
    rw [if_pos (h t (List.mem_cons_self ..))]
    exact join_written ts _ _ (fun u hu => h u (List.mem_cons_of_mem _ hu))
/-- What was cut can be joined, if it isn't too long. -/
theorem toks_join {src : Bytes} {ts : List Tok} (h : toks src = (ts, none)) : (join ts).2 = 0 ∨ (join ts).2 = 2 := by
  unfold toks at h
  split at h
  · injection h with h1 h2; cases h2
  · obtain ⟨hc, hp⟩ := go_parts _ _ _ _ _ h (by omega)
    obtain ⟨b', hj⟩ := join_written ts 0 [] (fun t ht => (hp t ht).2.1)
    unfold join
    rw [hj]
    simp only
    split
    · exact .inr rfl
    · rw [if_neg (by omega)]
      exact .inl rfl
/-- One token joined. -/
theorem join_one {t : Tok} (h : (written t).2 = true) (hl : (written t).1.length ≤ 65536) : join [t] = ((written t).1, 0) := by
  have hj : joinFrom 0 [] [t] = some ((written t).1) := by
    unfold joinFrom
    rw [if_pos h]
    unfold joinFrom joinStep
    simp
  unfold join
  rw [hj]
  simp only
  rw [if_neg (by omega), if_neg (by simp)]
theorem join_one_bad {t : Tok} (h : (written t).2 = false) : join [t] = ([], 1) := by
  have hj : joinFrom 0 [] [t] = none := by
    unfold joinFrom
    rw [if_neg (by simp [h])]
  unfold join
  rw [hj]

end Go.Proofs.YtdncljdfmdgdaaaGreatDoor.Lx

namespace Go.Proofs.YtdncljdfmdgdaaaGreatDoor.Lx
open Go
set_option linter.unusedSimpArgs false

theorem all_step {α : Type} (f : α → Bool) (l : List α) (m : Nat) (h : m < l.length) : (l.take (m + 1)).all f = ((l.take m).all f && f l[m]) := by
  rw [List.take_succ_eq_append_getElem h, List.all_append]
  simp

/-- A text that is one token. -/
theorem toks_one {s : Bytes} {t : Tok} (h : Form s t) (hl : s.length ≤ 65536) : toks s = ([t], none) := by
  obtain ⟨c, r, e, hb⟩ := form_begins h
  have hs : skip false s = s ++ [] := by rw [e, skip_begins hb, List.append_nil]
  unfold toks
  rw [if_neg (by omega), go_tok hs h (sep_nil.after _ _) (by decide)]
  have hp := form_pos h
  obtain ⟨f, hf⟩ : ∃ f, s.length = f + 1 := ⟨s.length - 1, by rw [e]; simp⟩
  rw [List.append_nil, Nat.sub_self, hf, go_nil (skip_end _)]
  cases t
  simp only at hp
  subst hp
  rfl

/-! ### texts -/
theorem nameKind_le (s : Bytes) : 1 ≤ nameKind s ∧ nameKind s ≤ 3 := by
  unfold nameKind
  split
  · decide
  · split <;> decide
theorem form_said {q : Bytes} {t : Tok} (h : Form q t) (hk : t.kind = 5) : ∀ c ∈ t.s, saidB c = true := by
  cases h with
  | name c s _ _ _ =>
    have := nameKind_le (c :: s)
    simp only at hk
    omega
  | number => cases hk
  | text u hu => exact hu
  | two => cases hk
  | sign => cases hk
theorem text_written (s : Bytes) : (written ⟨0, 5, s, 0⟩).2 = s.all saidB := by
  rw [Bool.eq_iff_iff]
  constructor
  · intro h
    have hf := form_of_written h
    have hb : (Tok.bare ⟨0, 5, s, 0⟩) = ⟨0, 5, s, 0⟩ := rfl
    rw [hb] at hf
    generalize (written ⟨0, 5, s, 0⟩).1 = q at hf
    rw [List.all_eq_true]
    exact form_said hf rfl
  · intro h
    have hf : Form (quote s) (Tok.bare ⟨0, 5, s, 0⟩) := .text s (List.all_eq_true.1 h)
    rw [written_of_form hf]
theorem quote_len (s : Bytes) : (quote s).length ≤ 2 * s.length + 2 := by
  have := quoteIn_len s
  simp [quote]
  omega
/-- Any text that may stand in one is quoted and cut back. -/
theorem text_law (s : Bytes) (hl : s.length ≤ 1000) : if s.all saidB then join [⟨0, 5, s, 0⟩] = (quote s, 0) ∧ toks (quote s) = ([⟨0, 5, s, 0⟩], none) else join [⟨0, 5, s, 0⟩] = ([], 1) := by
  split
  · rename_i h
    have hf : Form (quote s) ⟨0, 5, s, 0⟩ := .text s (List.all_eq_true.1 h)
    have hw := written_of_form (t := ⟨0, 5, s, 0⟩) hf
    have hq := quote_len s
    refine ⟨?_, toks_one hf (by omega)⟩
    have := join_one (t := ⟨0, 5, s, 0⟩) (by rw [hw]) (by rw [hw]; show (quote s).length ≤ _; omega)
    rw [this, hw]
  · rename_i h
    exact join_one_bad (by rw [text_written]; simpa using h)

/-! ### numbers -/
theorem number_form (n : Nat) (hn : n ≤ 9223372036854775807) : Form (Lib.decDigits n) ⟨0, 4, [], n⟩ := by
  obtain ⟨c, s, e1, e2, e3, e4⟩ := decDigits_form n
  have := Form.number c s e2 (by omega) (fun h => (e4 h).1)
  rw [e3, ← e1] at this
  exact this
theorem number_law (n : Nat) (hn : n ≤ 9223372036854775807) : join [⟨0, 4, [], n⟩] = (Lib.decDigits n, 0) ∧ toks (120 :: 32 :: (Lib.decDigits n ++ [59])) = ([⟨0, 1, [120], 0⟩, ⟨2, 4, [], n⟩, ⟨((2 + (Lib.decDigits n).length : Nat) : Int), 6, [59], 0⟩], none) := by
  have hf := number_form n hn
  have hw := written_of_form (t := ⟨0, 4, [], n⟩) hf
  have hlen : (Lib.decDigits n).length ≤ 20 := by
    rw [Lib.decDigits_length]
    have := nD_le 19 n (by omega)
    omega
  refine ⟨?_, ?_⟩
  · have := join_one (t := ⟨0, 4, [], n⟩) (by rw [hw]) (by rw [hw]; show (Lib.decDigits n).length ≤ _; omega)
    rw [this, hw]
  · obtain ⟨c, r, e, hb⟩ := form_begins hf
    have hfx : Form [120] ⟨0, 1, [120], 0⟩ := .name 120 [] (by decide) (by simp; decide) (by decide)
    have hfs : Form [59] ⟨0, 6, [59], 0⟩ := .sign 59 (by decide)
    have h1 : skip false (120 :: 32 :: (Lib.decDigits n ++ [59])) = [120] ++ 32 :: (Lib.decDigits n ++ [59]) := by rw [skip_begins (by decide)]; rfl
    have h2 : skip false (32 :: (Lib.decDigits n ++ [59])) = Lib.decDigits n ++ [59] := by rw [skip_blank (by decide), e, List.cons_append, skip_begins hb]
    have h3 : skip false [59] = [59] ++ [] := by rw [skip_begins (by decide)]; rfl
    unfold toks
    rw [if_neg (by simp; omega)]
    obtain ⟨f, hf'⟩ : ∃ f, (120 :: 32 :: (Lib.decDigits n ++ [59])).length + 1 = f + 4 := ⟨(Lib.decDigits n).length, by simp⟩
    rw [hf', go_tok h1 hfx ((sep_cons (by decide) (by decide)).after _ _) (by decide)]
    rw [go_tok h2 hf ((sep_cons (by decide) (by decide)).after _ _) (by decide)]
    rw [go_tok h3 hfs (sep_nil.after _ _) (by decide), go_nil (skip_end _)]
    simp only [List.length_append, List.length_cons, List.length_nil, Nat.zero_add, Nat.sub_self, Prod.mk.injEq, List.cons.injEq, and_true, true_and]
    refine ⟨?_, ?_, ?_⟩
    · congr 1
      omega
    · congr 1
      omega
    · congr 1
      omega

end Go.Proofs.YtdncljdfmdgdaaaGreatDoor.Lx
