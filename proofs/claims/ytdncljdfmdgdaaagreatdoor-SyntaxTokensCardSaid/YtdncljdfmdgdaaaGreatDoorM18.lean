/-
  The walks of coilkeep.Type, Types.
  slices.Equal at texts.
  slices.Equal at bools.
  The walk of syntax.Same.
-/
import Derived.Test.YtdncljdfmdgdaaaGreatDoorM12
import Derived.Test.YtdncljdfmdgdaaaGreatDoorM10
import Derived.Test.YtdncljdfmdgdaaaGreatDoorM17
namespace Go.Proofs.YtdncljdfmdgdaaaGreatDoor
open Go.RowKit Go.Shelf
set_option linter.unusedSimpArgs false
set_option linter.unusedVariables false

mutual
/-- Are two types the same tree? -/
def Sx.eqT : Sx.Ty → Sx.Ty → Bool
  | .mk k n ns es ps, .mk k' n' ns' es' ps' => (k == k') && ((n == n') && (decide (ns = ns') && (decide (es = es') && Sx.eqTs ps ps')))
def Sx.eqTs : List Sx.Ty → List Sx.Ty → Bool
  | [], [] => true
  | t :: l, u :: m => Sx.eqT t u && Sx.eqTs l m
  | _, _ => false
end
mutual
theorem Sx.eqT_iff : ∀ (t u : Sx.Ty), Sx.eqT t u = true ↔ t = u
  | .mk k n ns es ps, .mk k' n' ns' es' ps' => by
    rw [Sx.eqT]
    simp [Sx.eqTs_iff ps ps']
theorem Sx.eqTs_iff : ∀ (l m : List Sx.Ty), Sx.eqTs l m = true ↔ l = m
  | [], [] => by simp [Sx.eqTs]
  | t :: l, u :: m => by
    rw [Sx.eqTs, Bool.and_eq_true, Sx.eqT_iff t u, Sx.eqTs_iff l m]
    simp
  | [], u :: m => by simp [Sx.eqTs]
  | t :: l, [] => by simp [Sx.eqTs]
end

def KTyOk (t : Sx.Ty) : Prop := ∀ (u : Sx.Ty) (v x : Value) (W : World), Sx.size t ≤ 1000000 → Sx.size u ≤ 1000000 → IsTy W v t → IsTy W x u →
  Calls Tryz.prog 30 #[v, x] W fun e W' => e = .returned (.bool (Sx.eqT t u)) ∧ Below W.heap.size W W'
def KTysOk (l : List Sx.Ty) : Prop := ∀ (m : List Sx.Ty) (v x : Value) (W : World), Sx.sizeL l ≤ 1000000 → Sx.sizeL m ≤ 1000000 → TyRow W v l → TyRow W x m →
  Calls Tryz.prog 72 #[v, x] W fun e W' => e = .returned (.bool (Sx.eqTs l m)) ∧ Below W.heap.size W W'

set_option maxRecDepth 100000 in
set_option maxHeartbeats 8000000 in
theorem keepTypes (l : List Sx.Ty) (ih : ∀ t ∈ l, KTyOk t) : KTysOk l := by
  intro m v x W hz1 hz2 hv hx
  have hl1 := Sx.length_size l
  have hl2 := Sx.length_size m
  obtain ⟨A1, c1, rfl, hca, hra⟩ := hv
  obtain ⟨A2, c2, rfl, hcb, hrb⟩ := hx
  have HV := Lib.hid (show TyRow W (.slice A1 l.length c1) l from ⟨A1, c1, rfl, hca, hra⟩)
  have HX := Lib.hid (show TyRow W (.slice A2 m.length c2) m from ⟨A2, c2, rfl, hcb, hrb⟩)
  clear hca hra hcb hrb
  obtain ⟨k, hk⟩ : ∃ k, l.length = k := ⟨_, rfl⟩
  obtain ⟨j, hj⟩ : ∃ j, m.length = j := ⟨_, rfl⟩
  rw [hk] at HV ⊢
  rw [hj] at HX ⊢
  have k0 : (0 : Int) ≤ (k : Int) := by omega
  have k1 : (k : Int) ≤ 1000000 := by omega
  have j0 : (0 : Int) ≤ (j : Int) := by omega
  have j1 : (j : Int) ≤ 1000000 := by omega
  have HK := Lib.hid hk
  have HJ := Lib.hid hj
  have HZ1 := Lib.hid hz1
  have HZ2 := Lib.hid hz2
  have HIH := Lib.hid ih
  obtain ⟨L, hL⟩ : ∃ L, W.heap.size = L := ⟨_, rfl⟩
  have HL := Lib.hid hL
  clear hk hj hl1 hl2 hz1 hz2 ih hL
  by_cases hkj : k = j
  · subst hkj
    have HLE := Lib.hid (show m.length = k from HJ.out)
    go_enter Tryz.func72, Tryz.ntmps72
    go_wp2_with fail
    go_loopg [5] k (fun i v wr => ∃ (q : Nat), i = k - q ∧ v = .int .i64 (q : Int) ∧ q ≤ k ∧ l.take q = m.take q ∧ Below L W wr)
    case atStart => exact ⟨0, rfl, rfl, Nat.zero_le _, by simp, Below.refl _ _⟩
    case round =>
      obtain ⟨q, hi, rfl, hq, he, hb⟩ := hrel
      have HI := Lib.hid hi
      have HE := Lib.hid he
      have HB := Lib.hid hb
      have q0 : (0 : Int) ≤ (q : Int) := by omega
      have hLs : L ≤ wr.heap.size := by have := hb.size; have := HL.out; omega
      clear hi he hb
      by_cases hlt : q < k
      · have hqi : (q : Int) < (k : Int) := by omega
        have hq1 : q < l.length := by have := HK.out; omega
        have hq2 : q < m.length := by have := HLE.out; omega
        obtain ⟨g, off, An, cn, Ae, ce, Aq, cq, rfl, hty, hc5⟩ := HV.out.spot q hq1
        obtain ⟨g2, off2, Bn, dn, Be, de, Bq, dq, rfl, hty2, hd5⟩ := HX.out.spot q hq2
        rw [HL.out] at hc5 hd5
        obtain ⟨hg, x0, x1, x2, x3, x4⟩ := hc5 wr HB.out
        obtain ⟨hg2, y0, y1, y2, y3, y4⟩ := hd5 wr HB.out
        have hts := fun h : l[q]'hq1 = m[q]'hq2 => take_step HE.out hq1 hq2 h
        have hsm := Sx.size_mem (List.getElem_mem hq1)
        have hsm2 := Sx.size_mem (List.getElem_mem hq2)
        have hmem := List.getElem_mem hq1
        have hne : l[q]'hq1 ≠ m[q]'hq2 → Sx.eqTs l m = false := fun h => by
          cases hh : Sx.eqTs l m with
          | false => rfl
          | true => have := (Sx.eqTs_iff l m).1 hh; subst this; exact absurd rfl h
        obtain ⟨p, hp⟩ : ∃ p, l[q]'hq1 = p := ⟨_, rfl⟩
        obtain ⟨p2, hp2⟩ : ∃ p, m[q]'hq2 = p := ⟨_, rfl⟩
        rw [hp] at x0 x1 x2 x3 x4 hty hsm hmem
        rw [hp2] at y0 y1 y2 y3 y4 hty2 hsm2
        rw [hp, hp2] at hts hne
        have hbw : Below W.heap.size W wr.drew := by rw [HL.out]; exact Below.drew HB.out
        have hre := HIH.out p hmem p2 _ _ wr.drew (by have := HZ1.out; omega) (by have := HZ2.out; omega) (IsTy.below hbw _ _ hty) (IsTy.below hbw _ _ hty2)
        have HRE := Lib.hid hre
        have HTS := Lib.hid hts
        have HNE := Lib.hid hne
        clear hty hty2 hc5 hd5 hsm hsm2 hmem hp hp2 hbw hre hts hne
        go_upto_region 6 with fail
        cases hc : Sx.eqT p p2 with
        | true =>
          rw [hc] at HRE
          have HEQ := Lib.hid (HTS.out ((Sx.eqT_iff p p2).1 hc))
          clear hc
          go_region_with (go_at_call 30; refine HRE.out.mono ?_; rintro e w5 ⟨rfl, hb5⟩)
          all_goals
            have HB5 := Lib.hid ((Below.drew HB.out).trans (hb5.mono hLs))
            clear hb5
            go_wp2_with fail
            go_roundg (k - (q + 1))
            case measure => have := HI.out; omega
            case rel => exact ⟨q + 1, rfl, by simp, hlt, HEQ.out, HB5.out⟩
        | false =>
          rw [hc] at HRE
          have HF := Lib.hid (HNE.out (fun h => by have := (Sx.eqT_iff p p2).2 h; rw [hc] at this; cases this))
          clear hc
          go_region_with (go_at_call 30; refine HRE.out.mono ?_; rintro e w5 ⟨rfl, hb5⟩)
          all_goals
            have HB5 := Lib.hid ((Below.drew HB.out).trans (hb5.mono hLs))
            clear hb5
            go_wp2_with fail
            go_ret
            rw [HF.out, HL.out]
            exact ⟨rfl, HB5.out⟩
      · have hqi : ¬ (q : Int) < (k : Int) := by omega
        have HF := Lib.hid (show Sx.eqTs l m = true by
          have h := HE.out
          rw [List.take_of_length_le (by have := HK.out; omega), List.take_of_length_le (by have := HLE.out; omega)] at h
          exact (Sx.eqTs_iff l m).2 h)
        go_wp2_with fail
        go_ret
        rw [HF.out, HL.out]
        exact ⟨rfl, HB.out⟩
  · have hb : ((k : Int) != (j : Int)) = true := by rw [bne_iff_ne]; omega
    have HF := Lib.hid (show Sx.eqTs l m = false by
      cases hh : Sx.eqTs l m with
      | false => rfl
      | true => have := (Sx.eqTs_iff l m).1 hh; subst this; have := HK.out; have := HJ.out; omega)
    go_enter Tryz.func72, Tryz.ntmps72
    go_wp2_with fail
    go_ret
    rw [HF.out]
    exact ⟨rfl, Below.refl _ _⟩

theorem Sx.eqT_parts (t u : Sx.Ty) : Sx.eqT t u = ((t.kind == u.kind) && ((t.name == u.name) && (decide (t.names = u.names) && (decide (t.embeds = u.embeds) && Sx.eqTs t.parts u.parts)))) := by
  cases t; cases u; rw [Sx.eqT]; rfl

set_option maxRecDepth 100000 in
set_option maxHeartbeats 8000000 in
theorem keepType1 (t : Sx.Ty) (ih : KTysOk t.parts) : KTyOk t := by
  intro u v x W hz1 hz2 hv hx
  have hs1 := Sx.size_parts t
  have hs2 := Sx.size_parts u
  have hp1 := Sx.length_size t.parts
  have hp2 := Sx.length_size u.parts
  have heq := Sx.eqT_parts t u
  obtain ⟨An, cn, Ae, ce, Ap, cp, rfl, h1, h2, h3⟩ := hv.agg
  obtain ⟨Bn, dn, Be, de, Bp, dp, rfl, h4, h5, h6⟩ := hx.agg
  have hT := fun X (hX : Below W.heap.size W X) => keepTexts t.names u.names _ _ X (h1.below hX) (h4.below hX) (by omega) (by omega)
  have hB := fun X (hX : Below W.heap.size W X) => keepBools t.embeds u.embeds _ _ X (h2.below hX) (h5.below hX) (by omega) (by omega)
  have hP := fun X (hX : Below W.heap.size W X) => ih u.parts _ _ X (by omega) (by omega) (h3.below hX) (h6.below hX)
  obtain ⟨b1, e1⟩ : ∃ b, (t.kind == u.kind) = b := ⟨_, rfl⟩
  obtain ⟨b2, e2⟩ : ∃ b, (t.name == u.name) = b := ⟨_, rfl⟩
  obtain ⟨b3, e3⟩ : ∃ b, decide (t.names = u.names) = b := ⟨_, rfl⟩
  obtain ⟨b4, e4⟩ : ∃ b, decide (t.embeds = u.embeds) = b := ⟨_, rfl⟩
  obtain ⟨b5, e5⟩ : ∃ b, Sx.eqTs t.parts u.parts = b := ⟨_, rfl⟩
  rw [e1, e2, e3, e4, e5] at heq
  rw [e3] at hT
  rw [e4] at hB
  rw [e5] at hP
  rw [heq]
  obtain ⟨kt, hkt⟩ : ∃ k, t.kind = k := ⟨_, rfl⟩
  obtain ⟨ku, hku⟩ : ∃ k, u.kind = k := ⟨_, rfl⟩
  obtain ⟨nt, hnt⟩ : ∃ k, t.name = k := ⟨_, rfl⟩
  obtain ⟨nu, hnu⟩ : ∃ k, u.name = k := ⟨_, rfl⟩
  rw [hkt, hku] at e1
  rw [hnt, hnu] at e2
  rw [hkt, hku, hnt, hnu]
  obtain ⟨L, hL⟩ : ∃ L, W.heap.size = L := ⟨_, rfl⟩
  obtain ⟨w2, hw2⟩ : ∃ w2, W.alloc (.cells #[.int .i64 kt, .string ⟨nt.toArray⟩, .slice An t.names.length cn, .slice Ae t.embeds.length ce, .slice Ap t.parts.length cp] 26) = w2 := ⟨_, rfl⟩
  obtain ⟨L5, hL5⟩ : ∃ L5, w2.heap.size = L5 := ⟨_, rfl⟩
  obtain ⟨w3, hw3⟩ : ∃ w3, w2.alloc (.cells #[.int .i64 ku, .string ⟨nu.toArray⟩, .slice Bn u.names.length dn, .slice Be u.embeds.length de, .slice Bp u.parts.length dp] 26) = w3 := ⟨_, rfl⟩
  have g2 := World.grownBy_alloc W (.cells #[.int .i64 kt, .string ⟨nt.toArray⟩, .slice An t.names.length cn, .slice Ae t.embeds.length ce, .slice Ap t.parts.length cp] 26) none
  have x2 := heap_alloc_new W (.cells #[.int .i64 kt, .string ⟨nt.toArray⟩, .slice An t.names.length cn, .slice Ae t.embeds.length ce, .slice Ap t.parts.length cp] 26)
  rw [hw2] at g2 x2
  have g3 := World.grownBy_alloc w2 (.cells #[.int .i64 ku, .string ⟨nu.toArray⟩, .slice Bn u.names.length dn, .slice Be u.embeds.length de, .slice Bp u.parts.length dp] 26) none
  have x3 := heap_alloc_new w2 (.cells #[.int .i64 ku, .string ⟨nu.toArray⟩, .slice Bn u.names.length dn, .slice Be u.embeds.length de, .slice Bp u.parts.length dp] 26)
  rw [hw3] at g3 x3
  rw [hL] at x2
  rw [hL5] at x3
  have H3 := Lib.hid (show Held2 L W #[.int .i64 kt, .string ⟨nt.toArray⟩, .slice An t.names.length cn, .slice Ae t.embeds.length ce, .slice Ap t.parts.length cp] 26 L5 #[.int .i64 ku, .string ⟨nu.toArray⟩, .slice Bn u.names.length dn, .slice Be u.embeds.length de, .slice Bp u.parts.length dp] 26 w3 from ⟨by rw [← hL]; exact (grown_below g2).trans ((grown_below g3).mono g2.size), (g3.block L (lt_of_block x2) (fun e => nomatch e)).trans x2, x3⟩)
  have HT := Lib.hid hT
  have HB := Lib.hid hB
  have HP := Lib.hid hP
  have HL := Lib.hid hL
  clear hT hB hP g2 g3 x2 x3 heq hs1 hs2 hp1 hp2 h1 h2 h3 h4 h5 h6 e3 e4 e5 hkt hku hnt hnu hv hx ih hz1 hz2
  have h6 := HL.out
  obtain ⟨x0, x1, x2, x3, x4⟩ := five_cells H3.out.b1
  obtain ⟨y0, y1, y2, y3, y4⟩ := five_cells H3.out.b2
  obtain ⟨l1, l2⟩ := H3.out.lt
  cases b1 with
  | false =>
    go_enter Tryz.func30, Tryz.ntmps30
    go_wp2_with fail
    go_ret
    refine ⟨by first | rfl | simp, ?_⟩
    first | exact H3.out.b | (rw [HL.out]; exact H3.out.b)
  | true =>
    obtain rfl : kt = ku := by simpa using e1
    clear e1
    cases b2 with
    | false =>
      go_enter Tryz.func30, Tryz.ntmps30
      go_wp2_with fail
      go_ret
      refine ⟨by first | rfl | simp, ?_⟩
      first | exact H3.out.b | (rw [HL.out]; exact H3.out.b)
    | true =>
      obtain rfl : nt = nu := by simpa using e2
      clear e2
      cases b3 with
      | false =>
        go_enter Tryz.func30, Tryz.ntmps30
        go_wp2_with (go_at_call 46; refine (HT.out _ (by first | exact H3.out.b | (rw [HL.out]; exact H3.out.b))).mono ?_; rintro e w4 ⟨rfl, hb4⟩; have H4 := Lib.hid (H3.out.go hb4); clear hb4; clear x0 x1 x2 x3 x4 y0 y1 y2 y3 y4 l1 l2; obtain ⟨x0, x1, x2, x3, x4⟩ := five_cells H4.out.b1; obtain ⟨y0, y1, y2, y3, y4⟩ := five_cells H4.out.b2; obtain ⟨l1, l2⟩ := H4.out.lt)
        go_ret
        refine ⟨by first | rfl | simp, ?_⟩
        first | exact H4.out.b | (rw [HL.out]; exact H4.out.b)
      | true =>
        cases b4 with
        | false =>
          go_enter Tryz.func30, Tryz.ntmps30
          go_wp2_with (first | (go_at_call 46; refine (HT.out _ (by first | exact H3.out.b | (rw [HL.out]; exact H3.out.b))).mono ?_; rintro e w4 ⟨rfl, hb4⟩; have H4 := Lib.hid (H3.out.go hb4); clear hb4; clear x0 x1 x2 x3 x4 y0 y1 y2 y3 y4 l1 l2; obtain ⟨x0, x1, x2, x3, x4⟩ := five_cells H4.out.b1; obtain ⟨y0, y1, y2, y3, y4⟩ := five_cells H4.out.b2; obtain ⟨l1, l2⟩ := H4.out.lt) | (go_at_call 71; refine (HB.out _ (by first | exact H4.out.b | (rw [HL.out]; exact H4.out.b))).mono ?_; rintro e w5 ⟨rfl, hb5⟩; have H5 := Lib.hid (H4.out.go hb5); clear hb5; clear x0 x1 x2 x3 x4 y0 y1 y2 y3 y4 l1 l2; obtain ⟨x0, x1, x2, x3, x4⟩ := five_cells H5.out.b1; obtain ⟨y0, y1, y2, y3, y4⟩ := five_cells H5.out.b2; obtain ⟨l1, l2⟩ := H5.out.lt))
          go_ret
          refine ⟨by first | rfl | simp, ?_⟩
          first | exact H5.out.b | (rw [HL.out]; exact H5.out.b)
        | true =>
          cases b5 with
          | false =>
            go_enter Tryz.func30, Tryz.ntmps30
            go_wp2_with (first | (go_at_call 46; refine (HT.out _ (by first | exact H3.out.b | (rw [HL.out]; exact H3.out.b))).mono ?_; rintro e w4 ⟨rfl, hb4⟩; have H4 := Lib.hid (H3.out.go hb4); clear hb4; clear x0 x1 x2 x3 x4 y0 y1 y2 y3 y4 l1 l2; obtain ⟨x0, x1, x2, x3, x4⟩ := five_cells H4.out.b1; obtain ⟨y0, y1, y2, y3, y4⟩ := five_cells H4.out.b2; obtain ⟨l1, l2⟩ := H4.out.lt) | (go_at_call 71; refine (HB.out _ (by first | exact H4.out.b | (rw [HL.out]; exact H4.out.b))).mono ?_; rintro e w5 ⟨rfl, hb5⟩; have H5 := Lib.hid (H4.out.go hb5); clear hb5; clear x0 x1 x2 x3 x4 y0 y1 y2 y3 y4 l1 l2; obtain ⟨x0, x1, x2, x3, x4⟩ := five_cells H5.out.b1; obtain ⟨y0, y1, y2, y3, y4⟩ := five_cells H5.out.b2; obtain ⟨l1, l2⟩ := H5.out.lt) | (go_at_call 72; refine (HP.out _ (by first | exact H5.out.b | (rw [HL.out]; exact H5.out.b))).mono ?_; rintro e w6 ⟨rfl, hb6⟩; have H6 := Lib.hid (H5.out.go hb6); clear hb6; clear x0 x1 x2 x3 x4 y0 y1 y2 y3 y4 l1 l2; obtain ⟨x0, x1, x2, x3, x4⟩ := five_cells H6.out.b1; obtain ⟨y0, y1, y2, y3, y4⟩ := five_cells H6.out.b2; obtain ⟨l1, l2⟩ := H6.out.lt))
            go_ret
            refine ⟨by first | rfl | simp, ?_⟩
            first | exact H6.out.b | (rw [HL.out]; exact H6.out.b)
          | true =>
            go_enter Tryz.func30, Tryz.ntmps30
            go_wp2_with (first | (go_at_call 46; refine (HT.out _ (by first | exact H3.out.b | (rw [HL.out]; exact H3.out.b))).mono ?_; rintro e w4 ⟨rfl, hb4⟩; have H4 := Lib.hid (H3.out.go hb4); clear hb4; clear x0 x1 x2 x3 x4 y0 y1 y2 y3 y4 l1 l2; obtain ⟨x0, x1, x2, x3, x4⟩ := five_cells H4.out.b1; obtain ⟨y0, y1, y2, y3, y4⟩ := five_cells H4.out.b2; obtain ⟨l1, l2⟩ := H4.out.lt) | (go_at_call 71; refine (HB.out _ (by first | exact H4.out.b | (rw [HL.out]; exact H4.out.b))).mono ?_; rintro e w5 ⟨rfl, hb5⟩; have H5 := Lib.hid (H4.out.go hb5); clear hb5; clear x0 x1 x2 x3 x4 y0 y1 y2 y3 y4 l1 l2; obtain ⟨x0, x1, x2, x3, x4⟩ := five_cells H5.out.b1; obtain ⟨y0, y1, y2, y3, y4⟩ := five_cells H5.out.b2; obtain ⟨l1, l2⟩ := H5.out.lt) | (go_at_call 72; refine (HP.out _ (by first | exact H5.out.b | (rw [HL.out]; exact H5.out.b))).mono ?_; rintro e w6 ⟨rfl, hb6⟩; have H6 := Lib.hid (H5.out.go hb6); clear hb6; clear x0 x1 x2 x3 x4 y0 y1 y2 y3 y4 l1 l2; obtain ⟨x0, x1, x2, x3, x4⟩ := five_cells H6.out.b1; obtain ⟨y0, y1, y2, y3, y4⟩ := five_cells H6.out.b2; obtain ⟨l1, l2⟩ := H6.out.lt))
            go_ret
            refine ⟨by first | rfl | simp, ?_⟩
            first | exact H6.out.b | (rw [HL.out]; exact H6.out.b)
theorem keepTypeAll : ∀ (n : Nat) (t : Sx.Ty), Sx.size t ≤ n → KTyOk t
  | 0, t, h => by have := Sx.size_pos t; omega
  | n + 1, t, h => keepType1 t (keepTypes t.parts fun p hp => keepTypeAll n p (by
      have := Sx.size_mem hp
      have := Sx.size_parts t
      omega))

end Go.Proofs.YtdncljdfmdgdaaaGreatDoor

namespace Go.Proofs.YtdncljdfmdgdaaaGreatDoor
open Go.RowKit Go.Shelf
set_option linter.unusedSimpArgs false
set_option linter.unusedVariables false

set_option maxHeartbeats 4000000 in
theorem eqTexts (ts us : List Lx.Bytes) (v u : Value) (w : World) (hv : StrRow w v ts) (hu : StrRow w u us) (hl : ts.length ≤ 1000000000) (hl2 : us.length ≤ 1000000000) :
    Calls Tryz.prog 85 #[v, u] w fun e w' => e = .returned (.bool (decide (ts = us))) ∧ Below w.heap.size w w' := by
  obtain ⟨A1, c1, rfl, hv'⟩ := hv
  obtain ⟨A2, c2, rfl, hu'⟩ := hu
  have HA := Lib.hid (show StrRow w (.slice A1 ts.length c1) ts from ⟨A1, c1, rfl, hv'⟩)
  have HB := Lib.hid (show StrRow w (.slice A2 us.length c2) us from ⟨A2, c2, rfl, hu'⟩)
  clear hv' hu'
  by_cases hlen : ts.length = us.length
  · have hb : ((ts.length : Int) != (us.length : Int)) = false := by simp [hlen]
    have HL := Lib.hid hlen
    clear hlen
    go_enter Tryz.func85, Tryz.ntmps85
    go_wp2
    go_loopg [13] (ts.length) (fun n v wr => ∃ (m : Nat), n = ts.length - m ∧ v = .int .i64 (m : Int) ∧ m ≤ ts.length ∧ ts.take m = us.take m ∧ Below w.heap.size w wr)
    case atStart => exact ⟨0, rfl, rfl, Nat.zero_le _, by simp, Below.refl _ _⟩
    case round =>
      obtain ⟨m, hn, rfl, hm, he, hbl⟩ := hrel
      have HN := Lib.hid hn
      have HE := Lib.hid he
      clear hn he
      by_cases hlt : m < ts.length
      · have hlt2 : m < us.length := by rw [← HL.out]; exact hlt
        have hi : (m : Int) < (ts.length : Int) := by omega
        have hi2 : (m : Int) < (us.length : Int) := by omega
        have hi0 : (0 : Int) ≤ (m : Int) := by omega
        have hmi : (m : Int) ≤ 1000000000 := by omega
        obtain ⟨g, off, rfl, hgl, t0⟩ := HA.out.cellAt hbl m hlt
        obtain ⟨g2, off2, rfl, hgl2, u0⟩ := HB.out.cellAt hbl m hlt2
        obtain ⟨t, ht⟩ : ∃ t, ts[m]'hlt = t := ⟨_, rfl⟩
        obtain ⟨x, hx⟩ : ∃ x, us[m]'hlt2 = x := ⟨_, rfl⟩
        rw [ht] at t0
        rw [hx] at u0
        have HT := Lib.hid ht
        have HX := Lib.hid hx
        clear ht hx
        cases hq : (t == x) with
        | true =>
          have htx : t = x := by simpa using hq
          have HS := Lib.hid (take_step HE.out hlt hlt2 (by rw [HT.out, HX.out, htx]))
          clear htx
          go_wp2
          go_quiet (fail)
          go_wp2
          go_roundg (ts.length - (m + 1))
          case measure => have := HN.out; omega
          case rel => exact ⟨m + 1, rfl, by simp, hlt, HS.out, Below.drewN hbl _⟩
        | false =>
          have htx : t ≠ x := by simpa using hq
          have HS := Lib.hid (show decide (ts = us) = false by
            rw [decide_eq_false_iff_not]
            rintro rfl
            exact htx (HT.out.symm.trans HX.out))
          clear htx
          go_wp2
          go_quiet (fail)
          go_wp2
          go_ret
          rw [HS.out]
          exact ⟨rfl, Below.drewN hbl _⟩
      · have hi : ¬ (m : Int) < (ts.length : Int) := by omega
        have HS := Lib.hid (show decide (ts = us) = true by
          rw [decide_eq_true_eq]
          have h1 := HE.out
          rwa [List.take_of_length_le (by omega), List.take_of_length_le (by have := HL.out; omega)] at h1)
        go_wp2
        go_ret
        rw [HS.out]
        exact ⟨rfl, hbl⟩
  · have hb : ((ts.length : Int) != (us.length : Int)) = true := by simp; omega
    have HS := Lib.hid (show decide (ts = us) = false by
      rw [decide_eq_false_iff_not]
      rintro rfl
      exact hlen rfl)
    clear hlen
    go_enter Tryz.func85, Tryz.ntmps85
    go_wp2
    go_ret
    rw [HS.out]
    exact ⟨rfl, Below.refl _ _⟩


end Go.Proofs.YtdncljdfmdgdaaaGreatDoor

namespace Go.Proofs.YtdncljdfmdgdaaaGreatDoor
open Go.RowKit Go.Shelf
set_option linter.unusedSimpArgs false
set_option linter.unusedVariables false

set_option maxHeartbeats 4000000 in
theorem eqBools (ts us : List Bool) (v u : Value) (w : World) (hv : BoolRow w v ts) (hu : BoolRow w u us) (hl : ts.length ≤ 1000000000) (hl2 : us.length ≤ 1000000000) :
    Calls Tryz.prog 86 #[v, u] w fun e w' => e = .returned (.bool (decide (ts = us))) ∧ Below w.heap.size w w' := by
  obtain ⟨A1, c1, rfl, hv'⟩ := hv
  obtain ⟨A2, c2, rfl, hu'⟩ := hu
  have HA := Lib.hid (show BoolRow w (.slice A1 ts.length c1) ts from ⟨A1, c1, rfl, hv'⟩)
  have HB := Lib.hid (show BoolRow w (.slice A2 us.length c2) us from ⟨A2, c2, rfl, hu'⟩)
  clear hv' hu'
  by_cases hlen : ts.length = us.length
  · have hb : ((ts.length : Int) != (us.length : Int)) = false := by simp [hlen]
    have HL := Lib.hid hlen
    clear hlen
    go_enter Tryz.func86, Tryz.ntmps86
    go_wp2
    go_loopg [13] (ts.length) (fun n v wr => ∃ (m : Nat), n = ts.length - m ∧ v = .int .i64 (m : Int) ∧ m ≤ ts.length ∧ ts.take m = us.take m ∧ Below w.heap.size w wr)
    case atStart => exact ⟨0, rfl, rfl, Nat.zero_le _, by simp, Below.refl _ _⟩
    case round =>
      obtain ⟨m, hn, rfl, hm, he, hbl⟩ := hrel
      have HN := Lib.hid hn
      have HE := Lib.hid he
      clear hn he
      by_cases hlt : m < ts.length
      · have hlt2 : m < us.length := by rw [← HL.out]; exact hlt
        have hi : (m : Int) < (ts.length : Int) := by omega
        have hi2 : (m : Int) < (us.length : Int) := by omega
        have hi0 : (0 : Int) ≤ (m : Int) := by omega
        have hmi : (m : Int) ≤ 1000000000 := by omega
        obtain ⟨g, off, rfl, hgl, t0⟩ := HA.out.cellAt hbl m hlt
        obtain ⟨g2, off2, rfl, hgl2, u0⟩ := HB.out.cellAt hbl m hlt2
        obtain ⟨t, ht⟩ : ∃ t, ts[m]'hlt = t := ⟨_, rfl⟩
        obtain ⟨x, hx⟩ : ∃ x, us[m]'hlt2 = x := ⟨_, rfl⟩
        rw [ht] at t0
        rw [hx] at u0
        have HT := Lib.hid ht
        have HX := Lib.hid hx
        clear ht hx
        cases hq : (t == x) with
        | true =>
          have htx : t = x := by simpa using hq
          have hq2 : (t != x) = false := by simp [htx]
          have HS := Lib.hid (take_step HE.out hlt hlt2 (by rw [HT.out, HX.out, htx]))
          clear htx
          go_wp2
          go_quiet (fail)
          go_wp2
          go_roundg (ts.length - (m + 1))
          case measure => have := HN.out; omega
          case rel => exact ⟨m + 1, rfl, by simp, hlt, HS.out, Below.drewN hbl _⟩
        | false =>
          have htx : t ≠ x := by simpa using hq
          have hq2 : (t != x) = true := by simp [bne, hq]
          have HS := Lib.hid (show decide (ts = us) = false by
            rw [decide_eq_false_iff_not]
            rintro rfl
            exact htx (HT.out.symm.trans HX.out))
          clear htx
          go_wp2
          go_quiet (fail)
          go_wp2
          go_ret
          rw [HS.out]
          exact ⟨rfl, Below.drewN hbl _⟩
      · have hi : ¬ (m : Int) < (ts.length : Int) := by omega
        have HS := Lib.hid (show decide (ts = us) = true by
          rw [decide_eq_true_eq]
          have h1 := HE.out
          rwa [List.take_of_length_le (by omega), List.take_of_length_le (by have := HL.out; omega)] at h1)
        go_wp2
        go_ret
        rw [HS.out]
        exact ⟨rfl, hbl⟩
  · have hb : ((ts.length : Int) != (us.length : Int)) = true := by simp; omega
    have HS := Lib.hid (show decide (ts = us) = false by
      rw [decide_eq_false_iff_not]
      rintro rfl
      exact hlen rfl)
    clear hlen
    go_enter Tryz.func86, Tryz.ntmps86
    go_wp2
    go_ret
    rw [HS.out]
    exact ⟨rfl, Below.refl _ _⟩


end Go.Proofs.YtdncljdfmdgdaaaGreatDoor

namespace Go.Proofs.YtdncljdfmdgdaaaGreatDoor
open Go.RowKit Go.Shelf
set_option linter.unusedSimpArgs false
set_option linter.unusedVariables false

def QTyOk (t : Sx.Ty) : Prop := ∀ (u : Sx.Ty) (v x : Value) (W : World), Sx.size t ≤ 1000000 → Sx.size u ≤ 1000000 → IsTy W v t → IsTy W x u →
  Calls Tryz.prog 45 #[v, x] W fun e W' => e = .returned (.bool (Sx.eqT t u)) ∧ Below W.heap.size W W'
def QTysOk (l : List Sx.Ty) : Prop := ∀ (m : List Sx.Ty) (v x : Value) (W : World), Sx.sizeL l ≤ 1000000 → Sx.sizeL m ≤ 1000000 → TyRow W v l → TyRow W x m →
  Calls Tryz.prog 87 #[v, x, .func (.func 45) #[] #[]] W fun e W' => e = .returned (.bool (Sx.eqTs l m)) ∧ Below W.heap.size W W'

set_option maxRecDepth 100000 in
set_option maxHeartbeats 8000000 in
theorem eqTypes (l : List Sx.Ty) (ih : ∀ t ∈ l, QTyOk t) : QTysOk l := by
  intro m v x W hz1 hz2 hv hx
  have hl1 := Sx.length_size l
  have hl2 := Sx.length_size m
  obtain ⟨A1, c1, rfl, hca, hra⟩ := hv
  obtain ⟨A2, c2, rfl, hcb, hrb⟩ := hx
  have HV := Lib.hid (show TyRow W (.slice A1 l.length c1) l from ⟨A1, c1, rfl, hca, hra⟩)
  have HX := Lib.hid (show TyRow W (.slice A2 m.length c2) m from ⟨A2, c2, rfl, hcb, hrb⟩)
  clear hca hra hcb hrb
  obtain ⟨k, hk⟩ : ∃ k, l.length = k := ⟨_, rfl⟩
  obtain ⟨j, hj⟩ : ∃ j, m.length = j := ⟨_, rfl⟩
  rw [hk] at HV ⊢
  rw [hj] at HX ⊢
  have k0 : (0 : Int) ≤ (k : Int) := by omega
  have k1 : (k : Int) ≤ 1000000 := by omega
  have j0 : (0 : Int) ≤ (j : Int) := by omega
  have j1 : (j : Int) ≤ 1000000 := by omega
  have HK := Lib.hid hk
  have HJ := Lib.hid hj
  have HZ1 := Lib.hid hz1
  have HZ2 := Lib.hid hz2
  have HIH := Lib.hid ih
  obtain ⟨L, hL⟩ : ∃ L, W.heap.size = L := ⟨_, rfl⟩
  have HL := Lib.hid hL
  clear hk hj hl1 hl2 hz1 hz2 ih hL
  by_cases hkj : k = j
  · subst hkj
    have HLE := Lib.hid (show m.length = k from HJ.out)
    go_enter Tryz.func87, Tryz.ntmps87
    go_wp2_with fail
    go_loopg [17] k (fun i v wr => ∃ (q : Nat), i = k - q ∧ v = .int .i64 (q : Int) ∧ q ≤ k ∧ l.take q = m.take q ∧ Below L W wr)
    case atStart => exact ⟨0, rfl, rfl, Nat.zero_le _, by simp, Below.refl _ _⟩
    case round =>
      obtain ⟨q, hi, rfl, hq, he, hb⟩ := hrel
      have HI := Lib.hid hi
      have HE := Lib.hid he
      have HB := Lib.hid hb
      have q0 : (0 : Int) ≤ (q : Int) := by omega
      have hLs : L ≤ wr.heap.size := by have := hb.size; have := HL.out; omega
      clear hi he hb
      by_cases hlt : q < k
      · have hqi : (q : Int) < (k : Int) := by omega
        have hq1 : q < l.length := by have := HK.out; omega
        have hq2 : q < m.length := by have := HLE.out; omega
        obtain ⟨g, off, An, cn, Ae, ce, Aq, cq, rfl, hty, hc5⟩ := HV.out.spot q hq1
        obtain ⟨gy, off2, Bn, dn, Be, de, Bq, dq, rfl, hty2, hd5⟩ := HX.out.spot q hq2
        rw [HL.out] at hc5 hd5
        obtain ⟨hg, x0, x1, x2, x3, x4⟩ := hc5 wr HB.out
        obtain ⟨hg2, y0, y1, y2, y3, y4⟩ := hd5 wr HB.out
        have hts := fun h : l[q]'hq1 = m[q]'hq2 => take_step HE.out hq1 hq2 h
        have hsm := Sx.size_mem (List.getElem_mem hq1)
        have hsm2 := Sx.size_mem (List.getElem_mem hq2)
        have hmem := List.getElem_mem hq1
        have hne : l[q]'hq1 ≠ m[q]'hq2 → Sx.eqTs l m = false := fun h => by
          cases hh : Sx.eqTs l m with
          | false => rfl
          | true => have := (Sx.eqTs_iff l m).1 hh; subst this; exact absurd rfl h
        obtain ⟨p, hp⟩ : ∃ p, l[q]'hq1 = p := ⟨_, rfl⟩
        obtain ⟨p2, hp2⟩ : ∃ p, m[q]'hq2 = p := ⟨_, rfl⟩
        rw [hp] at x0 x1 x2 x3 x4 hty hsm hmem
        rw [hp2] at y0 y1 y2 y3 y4 hty2 hsm2
        rw [hp, hp2] at hts hne
        obtain ⟨w2, hw2⟩ : ∃ w2, wr.alloc (.cells #[.int .i64 p.kind, .string ⟨p.name.toArray⟩, .slice An p.names.length cn, .slice Ae p.embeds.length ce, .slice Aq p.parts.length cq] 26) = w2 := ⟨_, rfl⟩
        obtain ⟨w3, hw3⟩ : ∃ w3, w2.alloc (.cells #[.int .i64 p2.kind, .string ⟨p2.name.toArray⟩, .slice Bn p2.names.length dn, .slice Be p2.embeds.length de, .slice Bq p2.parts.length dq] 26) = w3 := ⟨_, rfl⟩
        have g2 := World.grownBy_alloc wr (.cells #[.int .i64 p.kind, .string ⟨p.name.toArray⟩, .slice An p.names.length cn, .slice Ae p.embeds.length ce, .slice Aq p.parts.length cq] 26) none
        have b2 := heap_alloc_new wr (.cells #[.int .i64 p.kind, .string ⟨p.name.toArray⟩, .slice An p.names.length cn, .slice Ae p.embeds.length ce, .slice Aq p.parts.length cq] 26)
        rw [hw2] at g2 b2
        have g3 := World.grownBy_alloc w2 (.cells #[.int .i64 p2.kind, .string ⟨p2.name.toArray⟩, .slice Bn p2.names.length dn, .slice Be p2.embeds.length de, .slice Bq p2.parts.length dq] 26) none
        have b3 := heap_alloc_new w2 (.cells #[.int .i64 p2.kind, .string ⟨p2.name.toArray⟩, .slice Bn p2.names.length dn, .slice Be p2.embeds.length de, .slice Bq p2.parts.length dq] 26)
        rw [hw3] at g3 b3
        obtain ⟨u0, u1, u2, u3, u4⟩ := five_cells (((grown_below g3).block _ (lt_of_block b2)).trans b2)
        obtain ⟨z0, z1, z2, z3, z4⟩ := five_cells b3
        have lz := lt_of_block b3
        have lu : wr.heap.size < w3.heap.size := Nat.lt_of_lt_of_le (lt_of_block b2) g3.size
        have up2 : ∀ {jj : Nat} {vv : Value}, wr.cell? ⟨gy, jj, none⟩ = some vv → w2.cell? ⟨gy, jj, none⟩ = some vv := fun {jj vv} h => (World.cell?_of_block ((grown_below g2).block gy hg2)).trans h
        replace y0 := up2 y0
        replace y1 := up2 y1
        replace y2 := up2 y2
        replace y3 := up2 y3
        replace y4 := up2 y4
        have hbw : Below W.heap.size W w3 := by rw [HL.out]; exact (HB.out.trans ((grown_below g2).mono hLs)).trans ((grown_below g3).mono (Nat.le_trans hLs g2.size))
        have HBW := Lib.hid (show Below L W w3 by rw [← HL.out]; exact hbw)
        have hre := HIH.out p hmem p2 _ _ w3 (by have := HZ1.out; omega) (by have := HZ2.out; omega) (IsTy.below hbw _ _ hty) (IsTy.below hbw _ _ hty2)
        have HRE := Lib.hid hre
        have HTS := Lib.hid hts
        have HNE := Lib.hid hne
        have hL3 : L ≤ w3.heap.size := by omega
        clear up2 g2 g3 b2 b3 hty hty2 hc5 hd5 hsm hsm2 hmem hp hp2 hbw hre hts hne
        cases hc : Sx.eqT p p2 with
        | true =>
          rw [hc] at HRE
          have HEQ := Lib.hid (HTS.out ((Sx.eqT_iff p p2).1 hc))
          clear hc
          go_wp2_with fail
          refine HRE.out.mono ?_
          rintro e w5 ⟨rfl, hb5⟩
          have HB5 := Lib.hid (HBW.out.trans (hb5.mono hL3))
          clear hb5
          go_wp2_with fail
          go_roundg (k - (q + 1))
          case measure => have := HI.out; omega
          case rel => exact ⟨q + 1, rfl, by simp, hlt, HEQ.out, HB5.out⟩
        | false =>
          rw [hc] at HRE
          have HF := Lib.hid (HNE.out (fun h => by have := (Sx.eqT_iff p p2).2 h; rw [hc] at this; cases this))
          clear hc
          go_wp2_with fail
          refine HRE.out.mono ?_
          rintro e w5 ⟨rfl, hb5⟩
          have HB5 := Lib.hid (HBW.out.trans (hb5.mono hL3))
          clear hb5
          go_wp2_with fail
          go_ret
          rw [HF.out, HL.out]
          exact ⟨rfl, HB5.out⟩
      · have hqi : ¬ (q : Int) < (k : Int) := by omega
        have HF := Lib.hid (show Sx.eqTs l m = true by
          have h := HE.out
          rw [List.take_of_length_le (by have := HK.out; omega), List.take_of_length_le (by have := HLE.out; omega)] at h
          exact (Sx.eqTs_iff l m).2 h)
        go_wp2_with fail
        go_ret
        rw [HF.out, HL.out]
        exact ⟨rfl, HB.out⟩
  · have hb : ((k : Int) != (j : Int)) = true := by rw [bne_iff_ne]; omega
    have HF := Lib.hid (show Sx.eqTs l m = false by
      cases hh : Sx.eqTs l m with
      | false => rfl
      | true => have := (Sx.eqTs_iff l m).1 hh; subst this; have := HK.out; have := HJ.out; omega)
    go_enter Tryz.func87, Tryz.ntmps87
    go_wp2_with fail
    go_ret
    rw [HF.out]
    exact ⟨rfl, Below.refl _ _⟩

set_option maxRecDepth 100000 in
set_option maxHeartbeats 8000000 in
theorem eqType1 (t : Sx.Ty) (ih : QTysOk t.parts) : QTyOk t := by
  intro u v x W hz1 hz2 hv hx
  have hs1 := Sx.size_parts t
  have hs2 := Sx.size_parts u
  have hp1 := Sx.length_size t.parts
  have hp2 := Sx.length_size u.parts
  have heq := Sx.eqT_parts t u
  obtain ⟨An, cn, Ae, ce, Ap, cp, rfl, h1, h2, h3⟩ := hv.agg
  obtain ⟨Bn, dn, Be, de, Bp, dp, rfl, h4, h5, h6⟩ := hx.agg
  have hT := fun X (hX : Below W.heap.size W X) => eqTexts t.names u.names _ _ X (h1.below hX) (h4.below hX) (by omega) (by omega)
  have hB := fun X (hX : Below W.heap.size W X) => eqBools t.embeds u.embeds _ _ X (h2.below hX) (h5.below hX) (by omega) (by omega)
  have hP := fun X (hX : Below W.heap.size W X) => ih u.parts _ _ X (by omega) (by omega) (h3.below hX) (h6.below hX)
  obtain ⟨b1, e1⟩ : ∃ b, (t.kind == u.kind) = b := ⟨_, rfl⟩
  obtain ⟨b2, e2⟩ : ∃ b, (t.name == u.name) = b := ⟨_, rfl⟩
  obtain ⟨b3, e3⟩ : ∃ b, decide (t.names = u.names) = b := ⟨_, rfl⟩
  obtain ⟨b4, e4⟩ : ∃ b, decide (t.embeds = u.embeds) = b := ⟨_, rfl⟩
  obtain ⟨b5, e5⟩ : ∃ b, Sx.eqTs t.parts u.parts = b := ⟨_, rfl⟩
  rw [e1, e2, e3, e4, e5] at heq
  rw [e3] at hT
  rw [e4] at hB
  rw [e5] at hP
  rw [heq]
  obtain ⟨kt, hkt⟩ : ∃ k, t.kind = k := ⟨_, rfl⟩
  obtain ⟨ku, hku⟩ : ∃ k, u.kind = k := ⟨_, rfl⟩
  obtain ⟨nt, hnt⟩ : ∃ k, t.name = k := ⟨_, rfl⟩
  obtain ⟨nu, hnu⟩ : ∃ k, u.name = k := ⟨_, rfl⟩
  rw [hkt, hku] at e1
  rw [hnt, hnu] at e2
  rw [hkt, hku, hnt, hnu]
  obtain ⟨L, hL⟩ : ∃ L, W.heap.size = L := ⟨_, rfl⟩
  obtain ⟨w2, hw2⟩ : ∃ w2, W.alloc (.cells #[.int .i64 kt, .string ⟨nt.toArray⟩, .slice An t.names.length cn, .slice Ae t.embeds.length ce, .slice Ap t.parts.length cp] 26) = w2 := ⟨_, rfl⟩
  obtain ⟨L5, hL5⟩ : ∃ L5, w2.heap.size = L5 := ⟨_, rfl⟩
  obtain ⟨w3, hw3⟩ : ∃ w3, w2.alloc (.cells #[.int .i64 ku, .string ⟨nu.toArray⟩, .slice Bn u.names.length dn, .slice Be u.embeds.length de, .slice Bp u.parts.length dp] 26) = w3 := ⟨_, rfl⟩
  have g2 := World.grownBy_alloc W (.cells #[.int .i64 kt, .string ⟨nt.toArray⟩, .slice An t.names.length cn, .slice Ae t.embeds.length ce, .slice Ap t.parts.length cp] 26) none
  have x2 := heap_alloc_new W (.cells #[.int .i64 kt, .string ⟨nt.toArray⟩, .slice An t.names.length cn, .slice Ae t.embeds.length ce, .slice Ap t.parts.length cp] 26)
  rw [hw2] at g2 x2
  have g3 := World.grownBy_alloc w2 (.cells #[.int .i64 ku, .string ⟨nu.toArray⟩, .slice Bn u.names.length dn, .slice Be u.embeds.length de, .slice Bp u.parts.length dp] 26) none
  have x3 := heap_alloc_new w2 (.cells #[.int .i64 ku, .string ⟨nu.toArray⟩, .slice Bn u.names.length dn, .slice Be u.embeds.length de, .slice Bp u.parts.length dp] 26)
  rw [hw3] at g3 x3
  rw [hL] at x2
  rw [hL5] at x3
  have H3 := Lib.hid (show Held2 L W #[.int .i64 kt, .string ⟨nt.toArray⟩, .slice An t.names.length cn, .slice Ae t.embeds.length ce, .slice Ap t.parts.length cp] 26 L5 #[.int .i64 ku, .string ⟨nu.toArray⟩, .slice Bn u.names.length dn, .slice Be u.embeds.length de, .slice Bp u.parts.length dp] 26 w3 from ⟨by rw [← hL]; exact (grown_below g2).trans ((grown_below g3).mono g2.size), (g3.block L (lt_of_block x2) (fun e => nomatch e)).trans x2, x3⟩)
  have HT := Lib.hid hT
  have HB := Lib.hid hB
  have HP := Lib.hid hP
  have HL := Lib.hid hL
  clear hT hB hP g2 g3 x2 x3 heq hs1 hs2 hp1 hp2 h1 h2 h3 h4 h5 h6 e3 e4 e5 hkt hku hnt hnu hv hx ih hz1 hz2
  have h6 := HL.out
  obtain ⟨x0, x1, x2, x3, x4⟩ := five_cells H3.out.b1
  obtain ⟨y0, y1, y2, y3, y4⟩ := five_cells H3.out.b2
  obtain ⟨l1, l2⟩ := H3.out.lt
  cases b1 with
  | false =>
    go_enter Tryz.func45, Tryz.ntmps45
    go_wp2_with fail
    go_ret
    refine ⟨by first | rfl | simp, ?_⟩
    first | exact H3.out.b | (rw [HL.out]; exact H3.out.b)
  | true =>
    obtain rfl : kt = ku := by simpa using e1
    clear e1
    cases b2 with
    | false =>
      go_enter Tryz.func45, Tryz.ntmps45
      go_wp2_with fail
      go_ret
      refine ⟨by first | rfl | simp, ?_⟩
      first | exact H3.out.b | (rw [HL.out]; exact H3.out.b)
    | true =>
      obtain rfl : nt = nu := by simpa using e2
      clear e2
      cases b3 with
      | false =>
        go_enter Tryz.func45, Tryz.ntmps45
        go_wp2_with (go_at_call 85; refine (HT.out _ (by first | exact H3.out.b | (rw [HL.out]; exact H3.out.b))).mono ?_; rintro e w4 ⟨rfl, hb4⟩; have H4 := Lib.hid (H3.out.go hb4); clear hb4; clear x0 x1 x2 x3 x4 y0 y1 y2 y3 y4 l1 l2; obtain ⟨x0, x1, x2, x3, x4⟩ := five_cells H4.out.b1; obtain ⟨y0, y1, y2, y3, y4⟩ := five_cells H4.out.b2; obtain ⟨l1, l2⟩ := H4.out.lt)
        go_ret
        refine ⟨by first | rfl | simp, ?_⟩
        first | exact H4.out.b | (rw [HL.out]; exact H4.out.b)
      | true =>
        cases b4 with
        | false =>
          go_enter Tryz.func45, Tryz.ntmps45
          go_wp2_with (first | (go_at_call 85; refine (HT.out _ (by first | exact H3.out.b | (rw [HL.out]; exact H3.out.b))).mono ?_; rintro e w4 ⟨rfl, hb4⟩; have H4 := Lib.hid (H3.out.go hb4); clear hb4; clear x0 x1 x2 x3 x4 y0 y1 y2 y3 y4 l1 l2; obtain ⟨x0, x1, x2, x3, x4⟩ := five_cells H4.out.b1; obtain ⟨y0, y1, y2, y3, y4⟩ := five_cells H4.out.b2; obtain ⟨l1, l2⟩ := H4.out.lt) | (go_at_call 86; refine (HB.out _ (by first | exact H4.out.b | (rw [HL.out]; exact H4.out.b))).mono ?_; rintro e w5 ⟨rfl, hb5⟩; have H5 := Lib.hid (H4.out.go hb5); clear hb5; clear x0 x1 x2 x3 x4 y0 y1 y2 y3 y4 l1 l2; obtain ⟨x0, x1, x2, x3, x4⟩ := five_cells H5.out.b1; obtain ⟨y0, y1, y2, y3, y4⟩ := five_cells H5.out.b2; obtain ⟨l1, l2⟩ := H5.out.lt))
          go_ret
          refine ⟨by first | rfl | simp, ?_⟩
          first | exact H5.out.b | (rw [HL.out]; exact H5.out.b)
        | true =>
          cases b5 with
          | false =>
            go_enter Tryz.func45, Tryz.ntmps45
            go_wp2_with (first | (go_at_call 85; refine (HT.out _ (by first | exact H3.out.b | (rw [HL.out]; exact H3.out.b))).mono ?_; rintro e w4 ⟨rfl, hb4⟩; have H4 := Lib.hid (H3.out.go hb4); clear hb4; clear x0 x1 x2 x3 x4 y0 y1 y2 y3 y4 l1 l2; obtain ⟨x0, x1, x2, x3, x4⟩ := five_cells H4.out.b1; obtain ⟨y0, y1, y2, y3, y4⟩ := five_cells H4.out.b2; obtain ⟨l1, l2⟩ := H4.out.lt) | (go_at_call 86; refine (HB.out _ (by first | exact H4.out.b | (rw [HL.out]; exact H4.out.b))).mono ?_; rintro e w5 ⟨rfl, hb5⟩; have H5 := Lib.hid (H4.out.go hb5); clear hb5; clear x0 x1 x2 x3 x4 y0 y1 y2 y3 y4 l1 l2; obtain ⟨x0, x1, x2, x3, x4⟩ := five_cells H5.out.b1; obtain ⟨y0, y1, y2, y3, y4⟩ := five_cells H5.out.b2; obtain ⟨l1, l2⟩ := H5.out.lt) | (go_at_call 87; refine (HP.out _ (by first | exact H5.out.b | (rw [HL.out]; exact H5.out.b))).mono ?_; rintro e w6 ⟨rfl, hb6⟩; have H6 := Lib.hid (H5.out.go hb6); clear hb6; clear x0 x1 x2 x3 x4 y0 y1 y2 y3 y4 l1 l2; obtain ⟨x0, x1, x2, x3, x4⟩ := five_cells H6.out.b1; obtain ⟨y0, y1, y2, y3, y4⟩ := five_cells H6.out.b2; obtain ⟨l1, l2⟩ := H6.out.lt))
            go_ret
            refine ⟨by first | rfl | simp, ?_⟩
            first | exact H6.out.b | (rw [HL.out]; exact H6.out.b)
          | true =>
            go_enter Tryz.func45, Tryz.ntmps45
            go_wp2_with (first | (go_at_call 85; refine (HT.out _ (by first | exact H3.out.b | (rw [HL.out]; exact H3.out.b))).mono ?_; rintro e w4 ⟨rfl, hb4⟩; have H4 := Lib.hid (H3.out.go hb4); clear hb4; clear x0 x1 x2 x3 x4 y0 y1 y2 y3 y4 l1 l2; obtain ⟨x0, x1, x2, x3, x4⟩ := five_cells H4.out.b1; obtain ⟨y0, y1, y2, y3, y4⟩ := five_cells H4.out.b2; obtain ⟨l1, l2⟩ := H4.out.lt) | (go_at_call 86; refine (HB.out _ (by first | exact H4.out.b | (rw [HL.out]; exact H4.out.b))).mono ?_; rintro e w5 ⟨rfl, hb5⟩; have H5 := Lib.hid (H4.out.go hb5); clear hb5; clear x0 x1 x2 x3 x4 y0 y1 y2 y3 y4 l1 l2; obtain ⟨x0, x1, x2, x3, x4⟩ := five_cells H5.out.b1; obtain ⟨y0, y1, y2, y3, y4⟩ := five_cells H5.out.b2; obtain ⟨l1, l2⟩ := H5.out.lt) | (go_at_call 87; refine (HP.out _ (by first | exact H5.out.b | (rw [HL.out]; exact H5.out.b))).mono ?_; rintro e w6 ⟨rfl, hb6⟩; have H6 := Lib.hid (H5.out.go hb6); clear hb6; clear x0 x1 x2 x3 x4 y0 y1 y2 y3 y4 l1 l2; obtain ⟨x0, x1, x2, x3, x4⟩ := five_cells H6.out.b1; obtain ⟨y0, y1, y2, y3, y4⟩ := five_cells H6.out.b2; obtain ⟨l1, l2⟩ := H6.out.lt))
            go_ret
            refine ⟨by first | rfl | simp, ?_⟩
            first | exact H6.out.b | (rw [HL.out]; exact H6.out.b)
theorem eqTypeAll : ∀ (n : Nat) (t : Sx.Ty), Sx.size t ≤ n → QTyOk t
  | 0, t, h => by have := Sx.size_pos t; omega
  | n + 1, t, h => eqType1 t (eqTypes t.parts fun p hp => eqTypeAll n p (by
      have := Sx.size_mem hp
      have := Sx.size_parts t
      omega))

end Go.Proofs.YtdncljdfmdgdaaaGreatDoor
