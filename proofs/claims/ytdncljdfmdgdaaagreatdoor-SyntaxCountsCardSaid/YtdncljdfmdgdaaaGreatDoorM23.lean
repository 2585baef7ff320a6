/-
  The walk of coillaw2.SyntaxCounts.
-/
import Derived.Test.YtdncljdfmdgdaaaGreatDoorM22
namespace Go.Proofs.YtdncljdfmdgdaaaGreatDoor
open Go.RowKit Go.Shelf
set_option linter.unusedSimpArgs false
set_option linter.unusedVariables false

set_option maxRecDepth 100000 in
set_option maxHeartbeats 16000000 in
theorem lawCounts (hruns : RunsOk) (a : Sx.Ty) (v : Value) (b : Sx.Ty) (u : Value) (w : World) (ha : TyArg w v a) (hb : TyArg w u b) (hG : GL w) (hN : NG ≤ w.heap.size) :
    Calls Tryz.prog 8 #[v, u] w fun e w' => e = .returned (.bool true) ∧ LW w w' := by
  obtain ⟨hta, hfa⟩ := ha
  obtain ⟨htb, hfb⟩ := hb
  obtain ⟨A1, c1, A2, c2, A3, c3, rfl, -⟩ := id hta.agg
  obtain ⟨B1, d1, B2, d2, B3, d3, rfl, -⟩ := id htb.agg
  obtain ⟨L, hL⟩ : ∃ L, w.heap.size = L := ⟨_, rfl⟩
  have HRUN := Lib.hid (fun X (hX : LW w X) => hruns.at hX)
  have HSA := Lib.hid (fun X (hX : TwoSt w (boxT a A1 c1 A2 c2 A3 c3) (boxT b B1 d1 B2 d2 B3 d3) X) => (keepSize _ a (Nat.le_refl _) hfa 20000 _ X (by omega) (by omega) (IsTy.below hX.lw.b _ _ hta)).mono fun e w' (h : SizeIs 20000 (Sx.size a) X e w') => (show ∃ r : Nat, e = .returned (.int .i64 (r : Nat)) ∧ (r < 20000 → r = Sx.size a) ∧ r ≤ 1000000000000000 ∧ TwoSt w (boxT a A1 c1 A2 c2 A3 c3) (boxT b B1 d1 B2 d2 B3 d3) w' by obtain ⟨r, h1, h2, h3, h4⟩ := h; exact ⟨r, h1, h3, by omega, hX.go h4⟩))
  have HSB := Lib.hid (fun X (hX : TwoSt w (boxT a A1 c1 A2 c2 A3 c3) (boxT b B1 d1 B2 d2 B3 d3) X) => (keepSize _ b (Nat.le_refl _) hfb 20000 _ X (by omega) (by omega) (IsTy.below hX.lw.b _ _ htb)).mono fun e w' (h : SizeIs 20000 (Sx.size b) X e w') => (show ∃ r : Nat, e = .returned (.int .i64 (r : Nat)) ∧ (r < 20000 → r = Sx.size b) ∧ r ≤ 1000000000000000 ∧ TwoSt w (boxT a A1 c1 A2 c2 A3 c3) (boxT b B1 d1 B2 d2 B3 d3) w' by obtain ⟨r, h1, h2, h3, h4⟩ := h; exact ⟨r, h1, h3, by omega, hX.go h4⟩))
  have HTA := Lib.hid hta
  have HTB := Lib.hid htb
  have HG := Lib.hid hG
  have HN := Lib.hid hN
  clear hfa hfb hta htb
  go_enter Tryz.func8, Tryz.ntmps8
  obtain ⟨w2, hw2⟩ : ∃ w2, (w.alloc (.cells #[.int .i64 a.kind, .string ⟨a.name.toArray⟩, .slice A1 a.names.length c1, .slice A2 a.embeds.length c2, .slice A3 a.parts.length c3] 26)).alloc (.cells #[.int .i64 b.kind, .string ⟨b.name.toArray⟩, .slice B1 b.names.length d1, .slice B2 b.embeds.length d2, .slice B3 b.parts.length d3] 26) = w2 := ⟨_, rfl⟩
  have hst2 : TwoSt w (boxT a A1 c1 A2 c2 A3 c3) (boxT b B1 d1 B2 d2 B3 d3) w2 := by rw [← hw2]; exact TwoSt.first HG.out HN.out _ _
  have H2 := Lib.hid hst2
  clear hst2 hG hN
  obtain ⟨⟨x0, x1, x2, x3, x4⟩, ⟨y0, y1, y2, y3, y4⟩, l1, l2⟩ := ten_cells H2.out hL
  go_wp2_with fail
  refine (HSA.out w2 H2.out).mono ?_
  rintro e w3 ⟨r, rfl, hr1, hr2, hst3⟩
  have H3 := Lib.hid hst3
  have r0 : (0 : Int) ≤ (r : Int) := by omega
  have r1 : (r : Int) ≤ 1000000000000000 := by omega
  clear hst3 hw2
  clear x0 x1 x2 x3 x4 y0 y1 y2 y3 y4 l1 l2
  obtain ⟨⟨x0, x1, x2, x3, x4⟩, ⟨y0, y1, y2, y3, y4⟩, l1, l2⟩ := ten_cells H3.out hL
  by_cases hra : r < 20000
  · have HRA := Lib.hid (show Sx.size a < 20000 by have := hr1 hra; omega)
    have ga : ¬ (20000 : Int) ≤ (r : Int) := by omega
    have ga2 : decide ((20000 : Int) ≤ (r : Int)) = false := by rw [decide_eq_false_iff_not]; omega
    clear hr1 hr2 hra
    go_wp2_with fail
    refine (HSB.out w3 H3.out).mono ?_
    rintro e w4 ⟨q, rfl, hq1, hq2, hst4⟩
    have H4 := Lib.hid hst4
    have q0 : (0 : Int) ≤ (q : Int) := by omega
    have q1 : (q : Int) ≤ 1000000000000000 := by omega
    clear hst4
    clear x0 x1 x2 x3 x4 y0 y1 y2 y3 y4 l1 l2
    obtain ⟨⟨x0, x1, x2, x3, x4⟩, ⟨y0, y1, y2, y3, y4⟩, l1, l2⟩ := ten_cells H4.out hL
    by_cases hrb : q < 20000
    · have HRB := Lib.hid (show Sx.size b < 20000 by have := hq1 hrb; omega)
      have gb : ¬ (20000 : Int) ≤ (q : Int) := by omega
      have gb2 : decide ((20000 : Int) ≤ (q : Int)) = false := by rw [decide_eq_false_iff_not]; omega
      clear hq1 hq2 hrb
      have HDA := Lib.hid (fun X (hX : TwoSt w (boxT a A1 c1 A2 c2 A3 c3) (boxT b B1 d1 B2 d2 B3 d3) X) => (refDepth 20000 a (by have := HRA.out; omega) (by omega) _ X (IsTy.below hX.lw.b _ _ HTA.out)).mono fun e w' h => (show e = .returned (.int .i64 (Sx.depth a : Nat)) ∧ TwoSt w (boxT a A1 c1 A2 c2 A3 c3) (boxT b B1 d1 B2 d2 B3 d3) w' from ⟨h.1, hX.go h.2⟩))
      have HDB := Lib.hid (fun X (hX : TwoSt w (boxT a A1 c1 A2 c2 A3 c3) (boxT b B1 d1 B2 d2 B3 d3) X) => (refDepth 20000 b (by have := HRB.out; omega) (by omega) _ X (IsTy.below hX.lw.b _ _ HTB.out)).mono fun e w' h => (show e = .returned (.int .i64 (Sx.depth b : Nat)) ∧ TwoSt w (boxT a A1 c1 A2 c2 A3 c3) (boxT b B1 d1 B2 d2 B3 d3) w' from ⟨h.1, hX.go h.2⟩))
      have hda := Sx.depth_size a
      have hdb := Sx.depth_size b
      have HMX := Lib.hid (show Sx.depthL [a, b] = max (Sx.depth a) (Sx.depth b) by simp [Sx.depthL])
      obtain ⟨da, hdae⟩ : ∃ d, Sx.depth a = d := ⟨_, rfl⟩
      obtain ⟨db, hdbe⟩ : ∃ d, Sx.depth b = d := ⟨_, rfl⟩
      rw [hdae] at HDA HMX hda
      rw [hdbe] at HDB HMX hdb
      have da0 : (0 : Int) ≤ (da : Int) := by omega
      have db0 : (0 : Int) ≤ (db : Int) := by omega
      have da1 : (da : Int) ≤ 20000 := by have := HRA.out; omega
      have db1 : (db : Int) ≤ 20000 := by have := HRB.out; omega
      have HDE := Lib.hid hdae
      clear hda hdb hdae hdbe
      obtain ⟨mx, hmx⟩ : ∃ m, Sx.depthL [a, b] = m := ⟨_, rfl⟩
      rw [hmx] at HMX
      have HME := Lib.hid hmx
      clear hmx
      have HN2 := Lib.hid (fun X (hX : TwoSt w (boxT a A1 c1 A2 c2 A3 c3) (boxT b B1 d1 B2 d2 B3 d3) X) => (synNodes 1000000 [a, b] _ _ (by have := HRA.out; have := HRB.out; simp [Sx.sizeL]; omega) (Nat.le_refl _) ((TyRow.new2 (IsTy.below hX.lw.b _ _ HTA.out) (IsTy.below hX.lw.b _ _ HTB.out)).below (show Below _ _ (World.drew _) from Below.drewN (Below.refl _ _) 1))).mono fun e w' h => (show e = .returned (.int .i64 (((Sx.nodes a : Nat) : Int) + ((Sx.nodes b : Nat) : Int))) ∧ TwoSt w (boxT a A1 c1 A2 c2 A3 c3) (boxT b B1 d1 B2 d2 B3 d3) w' from ⟨by rw [h.1, Sx.nodesL, Sx.nodesL, Sx.nodesL]; rw [Nat.add_zero, Int.natCast_add], ((hX.go (grown_below (World.grownBy_alloc X _ none))).go (show Below _ _ (World.drew _) from Below.drewN (Below.refl _ _) 1)).go h.2⟩))
      have HNA := Lib.hid (fun X (hX : TwoSt w (boxT a A1 c1 A2 c2 A3 c3) (boxT b B1 d1 B2 d2 B3 d3) X) => (refNodes 20000 a (by have := HRA.out; omega) (by omega) _ X (IsTy.below hX.lw.b _ _ HTA.out)).mono fun e w' h => (show e = .returned (.int .i64 (Sx.nodes a : Nat)) ∧ TwoSt w (boxT a A1 c1 A2 c2 A3 c3) (boxT b B1 d1 B2 d2 B3 d3) w' from ⟨h.1, hX.go h.2⟩))
      have HNB := Lib.hid (fun X (hX : TwoSt w (boxT a A1 c1 A2 c2 A3 c3) (boxT b B1 d1 B2 d2 B3 d3) X) => (refNodes 20000 b (by have := HRB.out; omega) (by omega) _ X (IsTy.below hX.lw.b _ _ HTB.out)).mono fun e w' h => (show e = .returned (.int .i64 (Sx.nodes b : Nat)) ∧ TwoSt w (boxT a A1 c1 A2 c2 A3 c3) (boxT b B1 d1 B2 d2 B3 d3) w' from ⟨h.1, hX.go h.2⟩))
      have hna := Sx.nodes_size a
      have hnb := Sx.nodes_size b
      obtain ⟨na, hnae⟩ : ∃ d, Sx.nodes a = d := ⟨_, rfl⟩
      obtain ⟨nb, hnbe⟩ : ∃ d, Sx.nodes b = d := ⟨_, rfl⟩
      rw [hnae] at HN2 HNA hna
      rw [hnbe] at HN2 HNB hnb
      have na0 : (0 : Int) ≤ (na : Int) := by omega
      have nb0 : (0 : Int) ≤ (nb : Int) := by omega
      have na1 : (na : Int) ≤ 20000 := by have := HRA.out; omega
      have nb1 : (nb : Int) ≤ 20000 := by have := HRB.out; omega
      have hwr : IntKind.i64.wrap ((na : Int) + (nb : Int)) = (na : Int) + (nb : Int) := by rw [IntKind.wrap_i64]; omega
      have heq : ((na : Int) + (nb : Int) == (na : Int) + (nb : Int)) = true := by simp
      clear hna hnb hnae hnbe
      have HD2 := Lib.hid (fun X (hX : TwoSt w (boxT a A1 c1 A2 c2 A3 c3) (boxT b B1 d1 B2 d2 B3 d3) X) => (synDepth 1000000 [a, b] _ _ (by have := HRA.out; have := HRB.out; simp [Sx.sizeL]; omega) (Nat.le_refl _) (TyRow.new2 (IsTy.below hX.lw.b _ _ HTA.out) (IsTy.below hX.lw.b _ _ HTB.out))).mono fun e w' h => (show e = .returned (.int .i64 (mx : Nat)) ∧ TwoSt w (boxT a A1 c1 A2 c2 A3 c3) (boxT b B1 d1 B2 d2 B3 d3) w' from ⟨by rw [h.1, HME.out], (hX.go (grown_below (World.grownBy_alloc X _ none))).go h.2⟩))
      have HD1 := Lib.hid (fun X (hX : TwoSt w (boxT a A1 c1 A2 c2 A3 c3) (boxT b B1 d1 B2 d2 B3 d3) X) => (synDepth 1000000 [a] _ _ (by have := HRA.out; simp [Sx.sizeL]; omega) (Nat.le_refl _) (TyRow.new1 (IsTy.below hX.lw.b _ _ HTA.out))).mono fun e w' h => (show e = .returned (.int .i64 (da : Nat)) ∧ TwoSt w (boxT a A1 c1 A2 c2 A3 c3) (boxT b B1 d1 B2 d2 B3 d3) w' from ⟨by rw [h.1, Sx.depthL, Sx.depthL, HDE.out]; simp, (hX.go (grown_below (World.grownBy_alloc X _ none))).go h.2⟩))
      have hlen : (Sx.once [] (Sx.allNamesL [a, b])).length ≤ 50000 := by
        have h1 := Sx.once_len (Sx.allNamesL [a, b]) []
        have h2 := Sx.namesL_size [a, b]
        have := HRA.out; have := HRB.out
        simp [Sx.sizeL] at *
        omega
      have hnames : Sx.once (Sx.once [] (Sx.allNames a)) (Sx.allNames b) = Sx.once [] (Sx.allNamesL [a, b]) := by
        rw [Sx.allNamesL, Sx.allNamesL, Sx.allNamesL, List.append_nil, Sx.once_append]
      have HM2 := Lib.hid (fun X (hX : TwoSt w (boxT a A1 c1 A2 c2 A3 c3) (boxT b B1 d1 B2 d2 B3 d3) X) => (synNames [a, b] _ _ (by have := HRA.out; have := HRB.out; simp [Sx.sizeL]; omega) (TyRow.new2 (IsTy.below hX.lw.b _ _ HTA.out) (IsTy.below hX.lw.b _ _ HTB.out))).mono fun e w' h => (show ∃ A, e = .returned (.slice A (Sx.once [] (Sx.allNamesL [a, b])).length (Sx.once [] (Sx.allNamesL [a, b])).length) ∧ StrRow w' (.slice A (Sx.once [] (Sx.allNamesL [a, b])).length (Sx.once [] (Sx.allNamesL [a, b])).length) (Sx.once [] (Sx.allNamesL [a, b])) ∧ TwoSt w (boxT a A1 c1 A2 c2 A3 c3) (boxT b B1 d1 B2 d2 B3 d3) w' from by
        obtain ⟨A, h1, h2, h3⟩ := h
        exact ⟨A, h1, h2, (hX.go (grown_below (World.grownBy_alloc X _ none))).go h3⟩))
      have HR1 := Lib.hid (fun X (hX : TwoSt w (boxT a A1 c1 A2 c2 A3 c3) (boxT b B1 d1 B2 d2 B3 d3) X) => (refNamesGo X 20000 a (by have := HRA.out; omega) (by omega) _ (.slice none 0 0) [] X (IsTy.below hX.lw.b _ _ HTA.out) (Below.refl _ _) (World.ownsRow_nil _ _ _ _) (by have := HRA.out; simp; omega)).mono fun e w' h => (show ∃ A9 m9 e9, e = .returned (.slice A9 m9 e9) ∧ OwnS w' X.heap.size (.slice A9 m9 e9) (Sx.once [] (Sx.allNames a)) ∧ Below X.heap.size X w' ∧ TwoSt w (boxT a A1 c1 A2 c2 A3 c3) (boxT b B1 d1 B2 d2 B3 d3) w' from by
        obtain ⟨u', h1, h2, h3, -⟩ := h
        obtain ⟨A9, e9, rfl⟩ := h2.slice
        exact ⟨A9, _, e9, h1, h2, h3, hX.go h3⟩))
      have HR2 := Lib.hid (fun X X2 (A9 : Option Addr) (m9 e9 : Nat) (hX : TwoSt w (boxT a A1 c1 A2 c2 A3 c3) (boxT b B1 d1 B2 d2 B3 d3) X) (hb : Below X.heap.size X X2) (ho : OwnS X2 X.heap.size (.slice A9 m9 e9) (Sx.once [] (Sx.allNames a))) => (refNamesGo X 20000 b (by have := HRB.out; omega) (by omega) _ _ _ X2 (IsTy.below hX.lw.b _ _ HTB.out) hb ho (by have h1 := Sx.once_len (Sx.allNames a) []; have h2 := Sx.names_size a; have := HRA.out; have := HRB.out; simp at h1; omega)).mono fun e w' h => (show ∃ A9 m9 e9, e = .returned (.slice A9 m9 e9) ∧ StrRow w' (.slice A9 m9 e9) (Sx.once [] (Sx.allNamesL [a, b])) ∧ Below X.heap.size X w' ∧ TwoSt w (boxT a A1 c1 A2 c2 A3 c3) (boxT b B1 d1 B2 d2 B3 d3) w' from by
        obtain ⟨u', h1, h2, h3, -⟩ := h
        rw [hnames] at h2
        obtain ⟨A9, e9, rfl⟩ := h2.slice
        exact ⟨A9, _, e9, h1, h2.row, h3, hX.go h3⟩))
      have HSM := Lib.hid (fun X v1 v2 (hX : TwoSt w (boxT a A1 c1 A2 c2 A3 c3) (boxT b B1 d1 B2 d2 B3 d3) X) (h1 : StrRow X v1 (Sx.once [] (Sx.allNamesL [a, b]))) (h2 : StrRow X v2 (Sx.once [] (Sx.allNamesL [a, b]))) => (synSameStr _ _ v1 v2 X h1 h2 (by omega) (by omega)).mono fun e w' h => (show e = .returned (.bool true) ∧ TwoSt w (boxT a A1 c1 A2 c2 A3 c3) (boxT b B1 d1 B2 d2 B3 d3) w' from ⟨by rw [h.1]; simp, hX.go h.2⟩))
      obtain ⟨ns, hns⟩ : ∃ ns, Sx.once [] (Sx.allNamesL [a, b]) = ns := ⟨_, rfl⟩
      obtain ⟨nl, hnl⟩ : ∃ n, ns.length = n := ⟨_, rfl⟩
      rw [hns] at HM2 HR2 HSM
      rw [hnl] at HM2
      clear hlen hnames hns hnl
      have HEQ := Lib.hid (fun X (hX : TwoSt w (boxT a A1 c1 A2 c2 A3 c3) (boxT b B1 d1 B2 d2 B3 d3) X) => (eqTypeAll _ a (Nat.le_refl _) b _ _ X (by have := HRA.out; omega) (by have := HRB.out; omega) (IsTy.below hX.lw.b _ _ HTA.out) (IsTy.below hX.lw.b _ _ HTB.out)).mono fun e w' h => (show e = .returned (.bool (Sx.eqT a b)) ∧ TwoSt w (boxT a A1 c1 A2 c2 A3 c3) (boxT b B1 d1 B2 d2 B3 d3) w' from ⟨h.1, hX.go h.2⟩))
      have HKT := Lib.hid (fun X (hX : TwoSt w (boxT a A1 c1 A2 c2 A3 c3) (boxT b B1 d1 B2 d2 B3 d3) X) => (keepTypeAll _ a (Nat.le_refl _) b _ _ X (by have := HRA.out; omega) (by have := HRB.out; omega) (IsTy.below hX.lw.b _ _ HTA.out) (IsTy.below hX.lw.b _ _ HTB.out)).mono fun e w' h => (show e = .returned (.bool (Sx.eqT a b)) ∧ TwoSt w (boxT a A1 c1 A2 c2 A3 c3) (boxT b B1 d1 B2 d2 B3 d3) w' from ⟨h.1, hX.go h.2⟩))
      obtain ⟨bq, hbq⟩ : ∃ q, Sx.eqT a b = q := ⟨_, rfl⟩
      rw [hbq] at HEQ HKT
      clear hbq
      have HOW := Lib.hid (fun X (hX : TwoSt w (boxT a A1 c1 A2 c2 A3 c3) (boxT b B1 d1 B2 d2 B3 d3) X) => (keepOwn 20000 a (by have := HRA.out; omega) (by omega) _ X (IsTy.below hX.lw.b _ _ HTA.out)).mono fun e w' h => (show ∃ (k : Int) (s : ByteArray) (a1 : Option Addr) (k1 e1 : Nat) (a2 : Option Addr) (k2 e2 : Nat) (a3 : Option Addr) (k3 e3 : Nat), e = .returned (.agg #[.int .i64 k, .string s, .slice a1 k1 e1, .slice a2 k2 e2, .slice a3 k3 e3]) ∧ IsTy w' (.agg #[.int .i64 k, .string s, .slice a1 k1 e1, .slice a2 k2 e2, .slice a3 k3 e3]) a ∧ TwoSt w (boxT a A1 c1 A2 c2 A3 c3) (boxT b B1 d1 B2 d2 B3 d3) w' from by
        obtain ⟨v', h1, h2, h3⟩ := h
        have h4 := IsTy.sub (only_sub _ _) _ _ h2
        obtain ⟨a1, e1, a2, e2, a3, e3, rfl, -⟩ := id h4.agg
        exact ⟨_, _, a1, _, e1, a2, _, e2, a3, _, e3, h1, h4, hX.go h3⟩))
      have HE2 := Lib.hid (fun X v2 (hX : TwoSt w (boxT a A1 c1 A2 c2 A3 c3) (boxT b B1 d1 B2 d2 B3 d3) X) (h2 : IsTy X v2 a) => (eqTypeAll _ a (Nat.le_refl _) a _ v2 X (by have := HRA.out; omega) (by have := HRA.out; omega) (IsTy.below hX.lw.b _ _ HTA.out) h2).mono fun e w' h => (show e = .returned (.bool true) ∧ TwoSt w (boxT a A1 c1 A2 c2 A3 c3) (boxT b B1 d1 B2 d2 B3 d3) w' from ⟨by rw [h.1, (Sx.eqT_iff a a).2 rfl], hX.go h.2⟩))
      have HRU := Lib.hid (fun X (hX : TwoSt w (boxT a A1 c1 A2 c2 A3 c3) (boxT b B1 d1 B2 d2 B3 d3) X) => (hruns X hX.lw.g hX.lw.n).mono fun e w' h => (show e = .returned (.bool true) ∧ TwoSt w (boxT a A1 c1 A2 c2 A3 c3) (boxT b B1 d1 B2 d2 B3 d3) w' from ⟨h.1, hX.go h.2.b⟩))
      go_upto_if 20 with (first
        | (go_at_call 42; with_reducible refine (HDA.out _ H4.out).mono ?_; rintro e w5 ⟨rfl, hst5⟩; have H5 := Lib.hid hst5; clear hst5; clear x0 x1 x2 x3 x4 y0 y1 y2 y3 y4 l1 l2; obtain ⟨⟨x0, x1, x2, x3, x4⟩, ⟨y0, y1, y2, y3, y4⟩, l1, l2⟩ := ten_cells H5.out hL)
        | (go_at_call 42; with_reducible refine (HDB.out _ H5.out).mono ?_; rintro e w6 ⟨rfl, hst6⟩; have H6 := Lib.hid hst6; clear hst6; clear x0 x1 x2 x3 x4 y0 y1 y2 y3 y4 l1 l2; obtain ⟨⟨x0, x1, x2, x3, x4⟩, ⟨y0, y1, y2, y3, y4⟩, l1, l2⟩ := ten_cells H6.out hL))
      go_cut [5] (fun v wx => v = .int .i64 (mx : Nat) ∧ TwoSt w (boxT a A1 c1 A2 c2 A3 c3) (boxT b B1 d1 B2 d2 B3 d3) wx)
      case first =>
        by_cases hlt : (da : Int) < (db : Int)
        · go_wp2_with (go_at_call 42; with_reducible refine (HDB.out _ H6.out).mono ?_; rintro e w7 ⟨rfl, hst7⟩)
          go_meet
          exact ⟨by rw [HMX.out, Nat.max_eq_right (by omega)], hst7⟩
        · go_wp2_with fail
          go_meet
          exact ⟨by rw [HMX.out, Nat.max_eq_left (by omega)], H6.out⟩
      case rest =>
        obtain ⟨rfl, hstc⟩ := hcut
        have hcl : ∀ X, TwoSt w (boxT a A1 c1 A2 c2 A3 c3) (boxT b B1 d1 B2 d2 B3 d3) X → (fun X => TwoSt w (boxT a A1 c1 A2 c2 A3 c3) (boxT b B1 d1 B2 d2 B3 d3) X ∧ X.cell? ⟨L, 0, none⟩ = some (.int .i64 a.kind) ∧ X.cell? ⟨L, 1, none⟩ = some (.string ⟨a.name.toArray⟩) ∧ X.cell? ⟨L, 2, none⟩ = some (.slice A1 a.names.length c1) ∧ X.cell? ⟨L, 3, none⟩ = some (.slice A2 a.embeds.length c2) ∧ X.cell? ⟨L, 4, none⟩ = some (.slice A3 a.parts.length c3) ∧ X.cell? ⟨L + 1, 0, none⟩ = some (.int .i64 b.kind) ∧ X.cell? ⟨L + 1, 1, none⟩ = some (.string ⟨b.name.toArray⟩) ∧ X.cell? ⟨L + 1, 2, none⟩ = some (.slice B1 b.names.length d1) ∧ X.cell? ⟨L + 1, 3, none⟩ = some (.slice B2 b.embeds.length d2) ∧ X.cell? ⟨L + 1, 4, none⟩ = some (.slice B3 b.parts.length d3) ∧ L < X.heap.size ∧ L + 1 < X.heap.size) X := fun X h => by
          obtain ⟨⟨x0, x1, x2, x3, x4⟩, ⟨y0, y1, y2, y3, y4⟩, l1, l2⟩ := ten_cells h hL
          exact ⟨h, x0, x1, x2, x3, x4, y0, y1, y2, y3, y4, l1, l2⟩
        have hal : ∀ X o, (fun X => TwoSt w (boxT a A1 c1 A2 c2 A3 c3) (boxT b B1 d1 B2 d2 B3 d3) X ∧ X.cell? ⟨L, 0, none⟩ = some (.int .i64 a.kind) ∧ X.cell? ⟨L, 1, none⟩ = some (.string ⟨a.name.toArray⟩) ∧ X.cell? ⟨L, 2, none⟩ = some (.slice A1 a.names.length c1) ∧ X.cell? ⟨L, 3, none⟩ = some (.slice A2 a.embeds.length c2) ∧ X.cell? ⟨L, 4, none⟩ = some (.slice A3 a.parts.length c3) ∧ X.cell? ⟨L + 1, 0, none⟩ = some (.int .i64 b.kind) ∧ X.cell? ⟨L + 1, 1, none⟩ = some (.string ⟨b.name.toArray⟩) ∧ X.cell? ⟨L + 1, 2, none⟩ = some (.slice B1 b.names.length d1) ∧ X.cell? ⟨L + 1, 3, none⟩ = some (.slice B2 b.embeds.length d2) ∧ X.cell? ⟨L + 1, 4, none⟩ = some (.slice B3 b.parts.length d3) ∧ L < X.heap.size ∧ L + 1 < X.heap.size) X → (fun X => TwoSt w (boxT a A1 c1 A2 c2 A3 c3) (boxT b B1 d1 B2 d2 B3 d3) X ∧ X.cell? ⟨L, 0, none⟩ = some (.int .i64 a.kind) ∧ X.cell? ⟨L, 1, none⟩ = some (.string ⟨a.name.toArray⟩) ∧ X.cell? ⟨L, 2, none⟩ = some (.slice A1 a.names.length c1) ∧ X.cell? ⟨L, 3, none⟩ = some (.slice A2 a.embeds.length c2) ∧ X.cell? ⟨L, 4, none⟩ = some (.slice A3 a.parts.length c3) ∧ X.cell? ⟨L + 1, 0, none⟩ = some (.int .i64 b.kind) ∧ X.cell? ⟨L + 1, 1, none⟩ = some (.string ⟨b.name.toArray⟩) ∧ X.cell? ⟨L + 1, 2, none⟩ = some (.slice B1 b.names.length d1) ∧ X.cell? ⟨L + 1, 3, none⟩ = some (.slice B2 b.embeds.length d2) ∧ X.cell? ⟨L + 1, 4, none⟩ = some (.slice B3 b.parts.length d3) ∧ L < X.heap.size ∧ L + 1 < X.heap.size) (X.alloc o) := fun X o h => hcl _ (h.1.go (grown_below (World.grownBy_alloc X o none)))
        have hS00 : (fun X => TwoSt w (boxT a A1 c1 A2 c2 A3 c3) (boxT b B1 d1 B2 d2 B3 d3) X ∧ X.cell? ⟨L, 0, none⟩ = some (.int .i64 a.kind) ∧ X.cell? ⟨L, 1, none⟩ = some (.string ⟨a.name.toArray⟩) ∧ X.cell? ⟨L, 2, none⟩ = some (.slice A1 a.names.length c1) ∧ X.cell? ⟨L, 3, none⟩ = some (.slice A2 a.embeds.length c2) ∧ X.cell? ⟨L, 4, none⟩ = some (.slice A3 a.parts.length c3) ∧ X.cell? ⟨L + 1, 0, none⟩ = some (.int .i64 b.kind) ∧ X.cell? ⟨L + 1, 1, none⟩ = some (.string ⟨b.name.toArray⟩) ∧ X.cell? ⟨L + 1, 2, none⟩ = some (.slice B1 b.names.length d1) ∧ X.cell? ⟨L + 1, 3, none⟩ = some (.slice B2 b.embeds.length d2) ∧ X.cell? ⟨L + 1, 4, none⟩ = some (.slice B3 b.parts.length d3) ∧ L < X.heap.size ∧ L + 1 < X.heap.size) wc := hcl _ hstc
        have hS0 : (fun X => TwoSt w (boxT a A1 c1 A2 c2 A3 c3) (boxT b B1 d1 B2 d2 B3 d3) X ∧ X.cell? ⟨L, 0, none⟩ = some (.int .i64 a.kind) ∧ X.cell? ⟨L, 1, none⟩ = some (.string ⟨a.name.toArray⟩) ∧ X.cell? ⟨L, 2, none⟩ = some (.slice A1 a.names.length c1) ∧ X.cell? ⟨L, 3, none⟩ = some (.slice A2 a.embeds.length c2) ∧ X.cell? ⟨L, 4, none⟩ = some (.slice A3 a.parts.length c3) ∧ X.cell? ⟨L + 1, 0, none⟩ = some (.int .i64 b.kind) ∧ X.cell? ⟨L + 1, 1, none⟩ = some (.string ⟨b.name.toArray⟩) ∧ X.cell? ⟨L + 1, 2, none⟩ = some (.slice B1 b.names.length d1) ∧ X.cell? ⟨L + 1, 3, none⟩ = some (.slice B2 b.embeds.length d2) ∧ X.cell? ⟨L + 1, 4, none⟩ = some (.slice B3 b.parts.length d3) ∧ L < X.heap.size ∧ L + 1 < X.heap.size) wc.drew := hcl _ (hstc.go (Below.drewN (Below.refl _ _) 1))
        simp only at hcl hal hS00 hS0
        clear hstc x0 x1 x2 x3 x4 y0 y1 y2 y3 y4 l1 l2
        go_wp2_with fail
        go_region_held3 (fun X => TwoSt w (boxT a A1 c1 A2 c2 A3 c3) (boxT b B1 d1 B2 d2 B3 d3) X ∧ X.cell? ⟨L, 0, none⟩ = some (.int .i64 a.kind) ∧ X.cell? ⟨L, 1, none⟩ = some (.string ⟨a.name.toArray⟩) ∧ X.cell? ⟨L, 2, none⟩ = some (.slice A1 a.names.length c1) ∧ X.cell? ⟨L, 3, none⟩ = some (.slice A2 a.embeds.length c2) ∧ X.cell? ⟨L, 4, none⟩ = some (.slice A3 a.parts.length c3) ∧ X.cell? ⟨L + 1, 0, none⟩ = some (.int .i64 b.kind) ∧ X.cell? ⟨L + 1, 1, none⟩ = some (.string ⟨b.name.toArray⟩) ∧ X.cell? ⟨L + 1, 2, none⟩ = some (.slice B1 b.names.length d1) ∧ X.cell? ⟨L + 1, 3, none⟩ = some (.slice B2 b.embeds.length d2) ∧ X.cell? ⟨L + 1, 4, none⟩ = some (.slice B3 b.parts.length d3) ∧ L < X.heap.size ∧ L + 1 < X.heap.size)
        (first | assumption | exact hal _ _ (by assumption))
        (first
          | (go_at_call 15; with_reducible refine (HN2.out _ (And.left hS00)).mono ?_; rintro e wa ⟨rfl, hst⟩; have hSa := hcl _ hst; clear hst)
          | (go_at_call 43; with_reducible refine (HNA.out _ (And.left hSa)).mono ?_; rintro e wb ⟨rfl, hst⟩; have hSb := hcl _ hst; clear hst)
          | (go_at_call 43; with_reducible refine (HNB.out _ (And.left hSb)).mono ?_; rintro e wc ⟨rfl, hst⟩; have hSc := hcl _ hst; clear hst)
          | (go_at_call 17; with_reducible refine (HM2.out _ (And.left hSc)).mono ?_; rintro e wd ⟨Ad, rfl, hrd, hst⟩; have hSd := hcl _ hst; have Rd := Lib.hid hrd; clear hrd; clear hst)
          | (go_at_call 44; with_reducible refine (HR1.out _ (And.left hSd)).mono ?_; rintro e wf ⟨Af, mf, cf, rfl, hof, hbf, hst⟩; have hSf := hcl _ hst; have Of := Lib.hid hof; have Bf := Lib.hid hbf; clear hof hbf; clear hst)
          | (go_at_call 44; with_reducible refine (HR2.out _ _ _ _ _ (And.left hSd) Bf.out Of.out).mono ?_; rintro e wg ⟨Ag, mg, cg, rfl, hrg, hbg, hst⟩; have hSg := hcl _ hst; have Rg := Lib.hid hrg; have Bg := Lib.hid hbg; clear hrg hbg; clear hst)
          | (go_at_call 16; with_reducible refine (HSM.out _ _ _ (And.left hSg) (Rd.out.below Bg.out) Rg.out).mono ?_; rintro e wh ⟨rfl, hst⟩; have hSh := hcl _ hst; clear hst)
          | (go_at_call 18; with_reducible refine (HD2.out _ (And.left hSh)).mono ?_; rintro e wi ⟨rfl, hst⟩; have hSi := hcl _ hst; clear hst)
          | (go_at_call 18; with_reducible refine (HD1.out _ (And.left hSi)).mono ?_; rintro e wj ⟨rfl, hst⟩; have hSj := hcl _ hst; clear hst)
          | (go_at_call 42; with_reducible refine (HDA.out _ (And.left hSj)).mono ?_; rintro e wk ⟨rfl, hst⟩; have hSk := hcl _ hst; clear hst)
          | (go_at_call 45; with_reducible refine (HEQ.out _ (And.left hSk)).mono ?_; rintro e wl ⟨rfl, hst⟩; have hSl := hcl _ hst; clear hst)
          | (go_at_call 30; with_reducible refine (HKT.out _ (And.left hSl)).mono ?_; rintro e wm ⟨rfl, hst⟩; have hSm := hcl _ hst; clear hst)
          | (go_at_call 26; with_reducible refine (HOW.out _ (And.left hSm)).mono ?_; rintro e wn ⟨kn, sn, n1, n2, n3, n4, n5, n6, n7, n8, n9, rfl, htn, hst⟩; have hSn := hcl _ hst; have Tn := Lib.hid htn; clear htn; clear hst)
          | (go_at_call 45; with_reducible refine (HE2.out _ _ (And.left hSn) Tn.out).mono ?_; rintro e wo ⟨rfl, hst⟩; have hSo := hcl _ hst; clear hst)
          | (go_at_call 3; with_reducible refine (HRU.out _ (And.left hSo)).mono ?_; rintro e wp ⟨rfl, hst⟩; have hSp := hcl _ hst; have HFIN := Lib.hid hst.lw; clear hst)
        )
        all_goals
          go_wp2_with fail
          go_ret
          exact ⟨rfl, HFIN.out⟩
    · have gb : (20000 : Int) ≤ (q : Int) := by omega
      have gb2 : decide ((20000 : Int) ≤ (q : Int)) = true := by rw [decide_eq_true_iff]; omega
      go_wp2_with (go_at_call 3; refine (HRUN.out w4 H4.out.lw).mono ?_; rintro e w5 ⟨rfl, hw5⟩)
      go_ret
      exact ⟨rfl, hw5⟩
  · have ga : (20000 : Int) ≤ (r : Int) := by omega
    have ga2 : decide ((20000 : Int) ≤ (r : Int)) = true := by rw [decide_eq_true_iff]; omega
    go_wp2_with (go_at_call 3; refine (HRUN.out w3 H3.out.lw).mono ?_; rintro e w5 ⟨rfl, hw5⟩)
    go_ret
    exact ⟨rfl, hw5⟩

end Go.Proofs.YtdncljdfmdgdaaaGreatDoor
