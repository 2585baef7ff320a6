/-
  The walk of coillaw2.SyntaxNamed.
  The walks of coillaw2's two, told.
  Plain: a statement's size.
-/
import Derived.Test.YtdncljdfmdgdaaaGreatDoorM22
import Derived.Test.YtdncljdfmdgdaaaGreatDoorM14
import Derived.Test.YtdncljdfmdgdaaaGreatDoorM15
namespace Go.Proofs.YtdncljdfmdgdaaaGreatDoor
open Go.RowKit Go.Shelf
set_option linter.unusedSimpArgs false
set_option linter.unusedVariables false
attribute [local go_sem] opWp upon2_value upon2_skip upon2_enter

theorem Sx.once_sub : ∀ (l acc : List Lx.Bytes), (∀ s ∈ l, s ∈ acc) → Sx.once acc l = acc
  | [], acc, h => rfl
  | s :: l, acc, h => by
    rw [Sx.once, if_pos (by simpa using h s List.mem_cons_self)]
    exact Sx.once_sub l acc fun x hx => h x (List.mem_cons_of_mem _ hx)
theorem Sx.once_begins : ∀ (l acc : List Lx.Bytes), ∃ r, Sx.once acc l = acc ++ r
  | [], acc => ⟨[], by simp [Sx.once]⟩
  | s :: l, acc => by
    rw [Sx.once]
    split
    · exact Sx.once_begins l acc
    · obtain ⟨r, hr⟩ := Sx.once_begins l (acc ++ [s])
      exact ⟨s :: r, by rw [hr]; simp⟩
theorem Sx.once_nodup : ∀ (l acc : List Lx.Bytes), acc.Nodup → (Sx.once acc l).Nodup
  | [], acc, h => h
  | s :: l, acc, h => by
    rw [Sx.once]
    split
    · exact Sx.once_nodup l acc h
    · rename_i hn
      refine Sx.once_nodup l _ (List.nodup_append.2 ⟨h, by simp, fun x hx y hy e => ?_⟩)
      simp at hy
      subst hy e
      exact hn (by simpa using hx)
theorem StrRow.take {W : World} {A : Option Addr} {k c : Nat} {l m : List Lx.Bytes} (h : StrRow W (.slice A k c) (l ++ m)) (d : Nat) : StrRow W (.slice A l.length d) l := by
  obtain ⟨A', c', hv, hl⟩ := h
  injection hv with h1 _ _
  subst h1
  refine ⟨A, d, rfl, fun i hi => ?_⟩
  obtain ⟨g, off, e, hc⟩ := hl i (by rw [List.length_append]; omega)
  rw [List.getElem_append_left hi] at hc
  exact ⟨g, off, e, hc⟩
/-- Three boxes: the third one holds a pointer to the first's type. -/
structure TriSt (w : World) (c0 c1 cp : Array Value) (pb : Nat) (a : Sx.Ty) (pa : Nat) (X : World) : Prop where
  two : TwoSt w c0 c1 X
  kp : X.heap[pb]? = some (.cells cp 26 (0, 0))
  ty : IsTy X (.agg cp) (.mk 5 [] [] [] [a])
theorem TriSt.go {w X X' : World} {c0 c1 cp : Array Value} {pb : Nat} {a : Sx.Ty} {pa : Nat} (h : TriSt w c0 c1 cp pb a pa X) (hb : Below X.heap.size X X') : TriSt w c0 c1 cp pb a pa X' :=
  ⟨h.two.go hb, (hb.block _ (lt_of_block h.kp)).trans h.kp, IsTy.below hb _ _ h.ty⟩

set_option maxRecDepth 100000 in
set_option maxHeartbeats 64000000 in
theorem lawNamed2 (hruns : RunsOk) (a : Sx.Ty) (v : Value) (b : Sx.Ty) (u : Value) (w : World) (ha : TyArg w v a) (hb : TyArg w u b) (hG : GL w) (hN : NG ≤ w.heap.size) :
    Calls Tryz.prog 9 #[v, u] w fun e w' => e = .returned (.bool true) ∧ LW w w' := by
  obtain ⟨hta, hfa⟩ := ha
  obtain ⟨htb, hfb⟩ := hb
  obtain ⟨A1, c1, A2, c2, A3, c3, rfl, -⟩ := id hta.agg
  obtain ⟨B1, d1, B2, d2, B3, d3, rfl, -⟩ := id htb.agg
  obtain ⟨L, hL⟩ : ∃ L, w.heap.size = L := ⟨_, rfl⟩
  have HRUN := Lib.hid (fun X (hX : LW w X) => hruns.at hX)
  have HSA := Lib.hid (fun X (hX : TwoSt w (boxT a A1 c1 A2 c2 A3 c3) (boxT b B1 d1 B2 d2 B3 d3) X) => (keepSize _ a (Nat.le_refl _) hfa 3000 _ X (by omega) (by omega) (IsTy.below hX.lw.b _ _ hta)).mono fun e w' (h : SizeIs 3000 (Sx.size a) X e w') => (show ∃ r : Nat, e = .returned (.int .i64 (r : Nat)) ∧ (r < 3000 → r = Sx.size a) ∧ r ≤ 1000000000000000 ∧ TwoSt w (boxT a A1 c1 A2 c2 A3 c3) (boxT b B1 d1 B2 d2 B3 d3) w' by obtain ⟨r, h1, h2, h3, h4⟩ := h; exact ⟨r, h1, h3, by omega, hX.go h4⟩))
  have HSB := Lib.hid (fun X (hX : TwoSt w (boxT a A1 c1 A2 c2 A3 c3) (boxT b B1 d1 B2 d2 B3 d3) X) => (keepSize _ b (Nat.le_refl _) hfb 3000 _ X (by omega) (by omega) (IsTy.below hX.lw.b _ _ htb)).mono fun e w' (h : SizeIs 3000 (Sx.size b) X e w') => (show ∃ r : Nat, e = .returned (.int .i64 (r : Nat)) ∧ (r < 3000 → r = Sx.size b) ∧ r ≤ 1000000000000000 ∧ TwoSt w (boxT a A1 c1 A2 c2 A3 c3) (boxT b B1 d1 B2 d2 B3 d3) w' by obtain ⟨r, h1, h2, h3, h4⟩ := h; exact ⟨r, h1, h3, by omega, hX.go h4⟩))
  have HTA := Lib.hid hta
  have HTB := Lib.hid htb
  have HG := Lib.hid hG
  have HN := Lib.hid hN
  clear hfa hfb hta htb
  go_enter Tryz.func9, Tryz.ntmps9
  obtain ⟨w2, hw2⟩ : ∃ w2, (w.alloc (.cells #[.int .i64 a.kind, .string ⟨a.name.toArray⟩, .slice A1 a.names.length c1, .slice A2 a.embeds.length c2, .slice A3 a.parts.length c3] 26)).alloc (.cells #[.int .i64 b.kind, .string ⟨b.name.toArray⟩, .slice B1 b.names.length d1, .slice B2 b.embeds.length d2, .slice B3 b.parts.length d3] 26) = w2 := ⟨_, rfl⟩
  have hst2 : TwoSt w (boxT a A1 c1 A2 c2 A3 c3) (boxT b B1 d1 B2 d2 B3 d3) w2 := by rw [← hw2]; exact TwoSt.first HG.out HN.out _ _
  have H2 := Lib.hid hst2
  clear hst2 hG hN
  obtain ⟨⟨x0, x1, x2, x3, x4⟩, ⟨y0, y1, y2, y3, y4⟩, l1, l2⟩ := ten_cells H2.out hL
  go_wp2_with fail
  refine (HSA.out w2 H2.out).mono ?_
  rintro e w3 ⟨r, rfl, hr1, hr2, hst3⟩
  have H3 := Lib.hid hst3
  have r0 : (0 : Int) ≤ (r : Int) := by omega
  have r1 : (r : Int) ≤ 1000000000000000 := by omega
  clear hst3 hw2
  clear x0 x1 x2 x3 x4 y0 y1 y2 y3 y4 l1 l2
  obtain ⟨⟨x0, x1, x2, x3, x4⟩, ⟨y0, y1, y2, y3, y4⟩, l1, l2⟩ := ten_cells H3.out hL
  by_cases hra : r < 3000
  · have HRA := Lib.hid (show Sx.size a < 3000 by have := hr1 hra; omega)
    have ga : ¬ (3000 : Int) ≤ (r : Int) := by omega
    have ga2 : decide ((3000 : Int) ≤ (r : Int)) = false := by rw [decide_eq_false_iff_not]; omega
    clear hr1 hr2 hra
    go_wp2_with fail
    refine (HSB.out w3 H3.out).mono ?_
    rintro e w4 ⟨q, rfl, hq1, hq2, hst4⟩
    have H4 := Lib.hid hst4
    have q0 : (0 : Int) ≤ (q : Int) := by omega
    have q1 : (q : Int) ≤ 1000000000000000 := by omega
    clear hst4
    clear x0 x1 x2 x3 x4 y0 y1 y2 y3 y4 l1 l2
    obtain ⟨⟨x0, x1, x2, x3, x4⟩, ⟨y0, y1, y2, y3, y4⟩, l1, l2⟩ := ten_cells H4.out hL
    by_cases hrb : q < 3000
    · have HRB := Lib.hid (show Sx.size b < 3000 by have := hq1 hrb; omega)
      have gb : ¬ (3000 : Int) ≤ (q : Int) := by omega
      have gb2 : decide ((3000 : Int) ≤ (q : Int)) = false := by rw [decide_eq_false_iff_not]; omega
      clear hq1 hq2 hrb
      have hl1 := Sx.once_len (Sx.allNames a) []
      have hl2 := Sx.once_len (Sx.allNames b) (Sx.once [] (Sx.allNames a))
      have hl3 := Sx.names_size a
      have hl4 := Sx.names_size b
      have hnd := Sx.once_nodup (Sx.allNames b) _ (Sx.once_nodup (Sx.allNames a) [] (by simp))
      obtain ⟨rs, hrs⟩ := Sx.once_begins (Sx.allNames b) (Sx.once [] (Sx.allNames a))
      have hN1 : Sx.once [] (Sx.allNamesL [a]) = Sx.once [] (Sx.allNames a) := by rw [Sx.allNamesL, Sx.allNamesL, List.append_nil]
      have hN2 : Sx.once [] (Sx.allNamesL [a, b]) = Sx.once [] (Sx.allNames a) ++ rs := by rw [Sx.allNamesL, Sx.allNamesL, Sx.allNamesL, List.append_nil, Sx.once_append, hrs]
      have hN3 : Sx.once [] (Sx.allNamesL [a, a]) = Sx.once [] (Sx.allNames a) := by
        rw [Sx.allNamesL, Sx.allNamesL, Sx.allNamesL, List.append_nil, Sx.once_append]
        exact Sx.once_sub _ _ fun s hs => (Sx.mem_once _ _ _).2 (.inr hs)
      have hN4 : Sx.once [] (Sx.allNamesL [.mk 5 [] [] [] [a]]) = Sx.once [] (Sx.allNames a) := by
        rw [Sx.allNamesL, Sx.allNamesL, Sx.allNames, Sx.allNamesL, Sx.allNamesL]
        simp
      obtain ⟨xs, hxs⟩ : ∃ x, Sx.once [] (Sx.allNames a) = x := ⟨_, rfl⟩
      rw [hxs] at hN1 hN2 hN3 hN4 hrs hl2 hl1 hnd
      rw [hrs] at hnd hl2
      clear hxs hrs
      obtain ⟨ys, hys⟩ : ∃ y, xs ++ rs = y := ⟨_, rfl⟩
      rw [hys] at hN2 hnd hl2
      have hxy : xs.length ≤ ys.length := by rw [← hys]; simp
      have hyl : ys.length ≤ 6000 := by simp at hl1; have := HRA.out; have := HRB.out; omega
      have HND := Lib.hid hnd
      have HXY := Lib.hid hys
      have HN1 := Lib.hid (fun X (hX : TwoSt w (boxT a A1 c1 A2 c2 A3 c3) (boxT b B1 d1 B2 d2 B3 d3) X) => (synNames [a] _ _ (by have := HRA.out; simp [Sx.sizeL]; omega) (TyRow.new1 (IsTy.below hX.lw.b _ _ HTA.out))).mono fun e w' h => (show ∃ A, e = .returned (.slice A xs.length xs.length) ∧ StrRow w' (.slice A xs.length xs.length) xs ∧ TwoSt w (boxT a A1 c1 A2 c2 A3 c3) (boxT b B1 d1 B2 d2 B3 d3) w' from by
        obtain ⟨A, h1, h2, h3⟩ := h
        rw [hN1] at h1 h2
        exact ⟨A, h1, h2, (hX.go (grown_below (World.grownBy_alloc X _ none))).go h3⟩))
      have HN2 := Lib.hid (fun X Zx (hX : TwoSt w (boxT a A1 c1 A2 c2 A3 c3) (boxT b B1 d1 B2 d2 B3 d3) X ∧ StrRow X (.slice Zx xs.length xs.length) xs) => (synNames [a, b] _ _ (by have := HRA.out; have := HRB.out; simp [Sx.sizeL]; omega) (TyRow.new2 (IsTy.below hX.1.lw.b _ _ HTA.out) (IsTy.below hX.1.lw.b _ _ HTB.out))).mono fun e w' h => (show ∃ A, e = .returned (.slice A ys.length ys.length) ∧ StrRow w' (.slice A ys.length ys.length) ys ∧ TwoSt w (boxT a A1 c1 A2 c2 A3 c3) (boxT b B1 d1 B2 d2 B3 d3) w' ∧ StrRow w' (.slice Zx xs.length xs.length) xs from by
        obtain ⟨A, h1, h2, h3⟩ := h
        rw [hN2] at h1 h2
        exact ⟨A, h1, h2, (hX.1.go (grown_below (World.grownBy_alloc X _ none))).go h3, (hX.2.below (grown_below (World.grownBy_alloc X _ none))).below h3⟩))
      have HN3 := Lib.hid (fun X Zx Zy (hX : TwoSt w (boxT a A1 c1 A2 c2 A3 c3) (boxT b B1 d1 B2 d2 B3 d3) X ∧ StrRow X (.slice Zx xs.length xs.length) xs ∧ StrRow X (.slice Zy ys.length ys.length) ys) => (synNames [a, a] _ _ (by have := HRA.out; have := HRB.out; simp [Sx.sizeL]; omega) (TyRow.new2 (IsTy.below hX.1.lw.b _ _ HTA.out) (IsTy.below hX.1.lw.b _ _ HTA.out))).mono fun e w' h => (show ∃ A, e = .returned (.slice A xs.length xs.length) ∧ StrRow w' (.slice A xs.length xs.length) xs ∧ TwoSt w (boxT a A1 c1 A2 c2 A3 c3) (boxT b B1 d1 B2 d2 B3 d3) w' ∧ StrRow w' (.slice Zx xs.length xs.length) xs ∧ StrRow w' (.slice Zy ys.length ys.length) ys from by
        obtain ⟨A, h1, h2, h3⟩ := h
        rw [hN3] at h1 h2
        exact ⟨A, h1, h2, (hX.1.go (grown_below (World.grownBy_alloc X _ none))).go h3, (hX.2.1.below (grown_below (World.grownBy_alloc X _ none))).below h3, (hX.2.2.below (grown_below (World.grownBy_alloc X _ none))).below h3⟩))
      have HTX := Lib.hid (fun X Zx Zy v1 v2 (hX : TwoSt w (boxT a A1 c1 A2 c2 A3 c3) (boxT b B1 d1 B2 d2 B3 d3) X ∧ StrRow X (.slice Zx xs.length xs.length) xs ∧ StrRow X (.slice Zy ys.length ys.length) ys) (h1 : StrRow X v1 xs) (h2 : StrRow X v2 xs) => (keepTexts xs xs v1 v2 X h1 h2 (by omega) (by omega)).mono fun e w' h => (show e = .returned (.bool true) ∧ TwoSt w (boxT a A1 c1 A2 c2 A3 c3) (boxT b B1 d1 B2 d2 B3 d3) w' ∧ StrRow w' (.slice Zx xs.length xs.length) xs ∧ StrRow w' (.slice Zy ys.length ys.length) ys from ⟨by rw [h.1]; simp, hX.1.go h.2, hX.2.1.below h.2, hX.2.2.below h.2⟩))
      have HTAKE := Lib.hid (fun X A n d (h : StrRow X (.slice A n d) ys) => (show StrRow X (.slice A xs.length d) xs by rw [← hys] at h; exact h.take d))
      obtain ⟨nx, hnx⟩ : ∃ n, xs.length = n := ⟨_, rfl⟩
      obtain ⟨ny, hny⟩ : ∃ n, ys.length = n := ⟨_, rfl⟩
      rw [hnx] at HN1 HN2 HN3 HTX HTAKE hxy
      rw [hny] at HN2 HN3 HTX hxy hyl
      have HNX := Lib.hid hnx
      have HNY := Lib.hid hny
      have nx0 : (0 : Int) ≤ (nx : Int) := by omega
      have nx1 : (nx : Int) ≤ 6000 := by omega
      have ny0 : (0 : Int) ≤ (ny : Int) := by omega
      have ny1 : (ny : Int) ≤ 6000 := by omega
      have hxyi : (nx : Int) ≤ (ny : Int) := by omega
      have hxyn : ¬ (ny : Int) < (nx : Int) := by omega
      clear hN1 hN2 hN3 hl1 hl2 hl3 hl4 hnd hys hnx hny
      go_wp2_with fail
      refine (HN1.out w4 H4.out).mono ?_
      rintro e w5 ⟨Ax, rfl, hx5, hst5⟩
      have H5 := Lib.hid (And.intro hst5 hx5)
      clear hst5 hx5
      clear x0 x1 x2 x3 x4 y0 y1 y2 y3 y4 l1 l2
      obtain ⟨⟨x0, x1, x2, x3, x4⟩, ⟨y0, y1, y2, y3, y4⟩, l1, l2⟩ := ten_cells H5.out.1 hL
      go_wp2_with fail
      refine (HN2.out w5 Ax H5.out).mono ?_
      rintro e w6 ⟨Ay, rfl, hy6, hst6, hx6⟩
      have H6 := Lib.hid (And.intro hst6 (And.intro hx6 hy6))
      clear hst6 hx6 hy6
      clear x0 x1 x2 x3 x4 y0 y1 y2 y3 y4 l1 l2
      obtain ⟨⟨x0, x1, x2, x3, x4⟩, ⟨y0, y1, y2, y3, y4⟩, l1, l2⟩ := ten_cells H6.out.1 hL
      have hxd : decide (ny < nx) = false := by rw [decide_eq_false_iff_not]; omega
      go_wp2_with fail
      refine (HTX.out w6 Ax Ay _ _ H6.out (HTAKE.out _ _ _ _ H6.out.2.2) H6.out.2.1).mono ?_
      rintro e w7 ⟨rfl, h7⟩
      have H7 := Lib.hid h7
      clear h7
      clear x0 x1 x2 x3 x4 y0 y1 y2 y3 y4 l1 l2
      obtain ⟨⟨x0, x1, x2, x3, x4⟩, ⟨y0, y1, y2, y3, y4⟩, l1, l2⟩ := ten_cells H7.out.1 hL
      go_wp2_with fail
      refine (HN3.out w7 Ax Ay H7.out).mono ?_
      rintro e w8 ⟨Az, rfl, hz8, h8⟩
      have H8 := Lib.hid h8
      have HZ8 := Lib.hid hz8
      clear h8 hz8
      clear x0 x1 x2 x3 x4 y0 y1 y2 y3 y4 l1 l2
      go_wp2_with fail
      refine (HTX.out w8 Ax Ay _ _ H8.out HZ8.out H8.out.2.1).mono ?_
      rintro e w9 ⟨rfl, h9⟩
      have H9 := Lib.hid h9
      have HGO9 := Lib.hid (fun X (hb : Below w9.heap.size w9 X) => (show (TwoSt w (boxT a A1 c1 A2 c2 A3 c3) (boxT b B1 d1 B2 d2 B3 d3) X ∧ StrRow X (.slice Ax nx nx) xs ∧ StrRow X (.slice Ay ny ny) ys) from ⟨h9.1.go hb, h9.2.1.below hb, h9.2.2.below hb⟩))
      have HB9 := Lib.hid (show Below w9.heap.size w9 w9 from Below.refl _ _)
      clear h9 hxd
      go_wp2_with fail
      go_loopg [7, 8] ny (fun n v7 v8 wr => ∃ i : Nat, n = ny - i ∧ v7 = .int .i64 (i : Nat) ∧ i ≤ ny ∧ Below w9.heap.size w9 wr)
      case atStart => exact ⟨0, rfl, rfl, Nat.zero_le _, HB9.out⟩
      case round =>
        obtain ⟨i, hn, rfl, hi, hw⟩ := hrel
        have HI := Lib.hid hn
        have HWR := Lib.hid hw
        have i0 : (0 : Int) ≤ (i : Int) := by omega
        have i1 : (i : Int) ≤ 1000000 := by omega
        clear hn hw
        by_cases hlt : i < ny
        · have hii : (i : Int) < (ny : Int) := by omega
          have hil : i < ys.length := by have := HNY.out; omega
          obtain ⟨g, off, rfl, hsp⟩ := H9.out.2.2.spot i hil
          obtain ⟨s, hs⟩ : ∃ s, ys[i]'hil = s := ⟨_, rfl⟩
          rw [hs] at hsp
          have HSP := Lib.hid hsp
          have HS := Lib.hid hs
          clear hsp hs
          go_wp2_with fail
          go_loopg [8] i (fun n v8 wz => ∃ j : Nat, n = i - j ∧ v8 = .int .i64 (j : Nat) ∧ j ≤ i ∧ Below w9.heap.size w9 wz)
          case atStart => exact ⟨0, rfl, rfl, Nat.zero_le _, HWR.out⟩
          case round =>
            obtain ⟨j, hn, rfl, hj, hw⟩ := hrel
            have HJ := Lib.hid hn
            have HWZ := Lib.hid hw
            have j0 : (0 : Int) ≤ (j : Int) := by omega
            have j1 : (j : Int) ≤ 1000000 := by omega
            clear hn hw
            by_cases hlt2 : j < i
            · have hji : (j : Int) < (i : Int) := by omega
              have hjk : (j : Int) < (ny : Int) := by omega
              have hjl : j < ys.length := by omega
              obtain ⟨hg, q0⟩ := HSP.out wr HWZ.out
              obtain ⟨g2, off2, e2, hsp2⟩ := H9.out.2.2.spot j hjl
              injection e2 with e2
              injection e2 with e2 e3
              subst e2 e3
              obtain ⟨hg2, q1⟩ := hsp2 wr HWZ.out
              have hne := (List.pairwise_iff_getElem.1 HND.out) j i hjl hil hlt2
              rw [HS.out] at hne
              obtain ⟨x, hx⟩ : ∃ x, ys[j]'hjl = x := ⟨_, rfl⟩
              rw [hx] at q1 hne
              have hq : (s == x) = false := by rw [beq_eq_false_iff_ne]; exact fun e => hne e.symm
              clear hsp2 hx hne
              have hsx : ¬ s = x := by simpa using hq
              have HF := Lib.hid hsx
              clear hsx
              go_wp2_with fail
              go_quiet (fail)
              go_wp2_with fail
              go_roundg (i - (j + 1))
              case measure => have := HJ.out; omega
              case rel => exact ⟨j + 1, rfl, by simp, hlt2, Below.drewN HWZ.out _⟩
            · have hji : ¬ (j : Int) < (i : Int) := by omega
              go_wp2_with fail
              go_roundg (ny - (i + 1))
              case measure => have := HI.out; omega
              case rel => exact ⟨i + 1, rfl, by simp, hlt, HWZ.out⟩
        · have hii : ¬ (i : Int) < (ny : Int) := by omega
          have H10 := Lib.hid (HGO9.out wr HWR.out)
          obtain ⟨⟨x0, x1, x2, x3, x4⟩, ⟨y0, y1, y2, y3, y4⟩, l1, l2⟩ := ten_cells H10.out.1 hL
          go_wp2_with fail
          refine (lawTy 5 _ 1 1 _).mono ?_
          rintro e w11 ⟨rfl, hb11⟩
          have hal := grown_below (World.grownBy_alloc wr (.cells #[.int .i64 a.kind, .string ⟨a.name.toArray⟩, .slice A1 a.names.length c1, .slice A2 a.embeds.length c2, .slice A3 a.parts.length c3] 26) none)
          have hrow := (TyRow.new1 (IsTy.below H10.out.1.lw.b _ _ HTA.out)).below hb11
          have hty11 := IsTy.made2 (k := 5) (nm := []) (ns := []) (es := []) ⟨none, 0, rfl, fun i hi => absurd hi (by simp)⟩ ⟨none, 0, rfl, fun i hi => absurd hi (by simp)⟩ hrow
          have h11 : (TwoSt w (boxT a A1 c1 A2 c2 A3 c3) (boxT b B1 d1 B2 d2 B3 d3) w11 ∧ StrRow w11 (.slice Ax nx nx) xs ∧ StrRow w11 (.slice Ay ny ny) ys) := ⟨(H10.out.1.go hal).go hb11, (H10.out.2.1.below hal).below hb11, (H10.out.2.2.below hal).below hb11⟩
          obtain ⟨pa, hpa⟩ : ∃ p, wr.heap.size = p := ⟨_, rfl⟩
          rw [hpa] at hty11 hrow
          obtain ⟨pb, hpb⟩ : ∃ p, w11.heap.size = p := ⟨_, rfl⟩
          obtain ⟨w12, hw12⟩ : ∃ w12, w11.alloc (.cells #[.int .i64 5, .string ⟨#[]⟩, .slice none 0 0, .slice none 0 0, .slice (some ⟨pa, 0, none⟩) 1 1] 26) = w12 := ⟨_, rfl⟩
          have hb12 : Below w11.heap.size w11 w12 := by rw [← hw12]; exact grown_below (World.grownBy_alloc w11 _ none)
          have hkp : w12.heap[pb]? = some (.cells #[.int .i64 5, .string ⟨#[]⟩, .slice none 0 0, .slice none 0 0, .slice (some ⟨pa, 0, none⟩) 1 1] 26 (0, 0)) := by rw [← hw12, ← hpb]; exact heap_alloc_new w11 _
          have H12 := Lib.hid (show TriSt w (boxT a A1 c1 A2 c2 A3 c3) (boxT b B1 d1 B2 d2 B3 d3) #[.int .i64 5, .string ⟨#[]⟩, .slice none 0 0, .slice none 0 0, .slice (some ⟨pa, 0, none⟩) 1 1] pb a pa w12 ∧ StrRow w12 (.slice Ax nx nx) xs from ⟨⟨h11.1.go hb12, hkp, IsTy.below hb12 _ _ hty11⟩, h11.2.1.below hb12⟩)
          have HWL := Lib.hid hw12
          clear hal hrow hty11 h11 hb12 hkp hw12 hb11
          clear x0 x1 x2 x3 x4 y0 y1 y2 y3 y4 l1 l2
          go_upto_region 16 with fail
          rw [HWL.out]
          clear HWL
          obtain ⟨na, hna⟩ : ∃ n, Sx.nodes a = n := ⟨_, rfl⟩
          obtain ⟨nb, hnb⟩ : ∃ n, Sx.nodes b = n := ⟨_, rfl⟩
          obtain ⟨da, hda⟩ : ∃ n, Sx.depth a = n := ⟨_, rfl⟩
          have HSB2 := Lib.hid (show na ≤ 3000 ∧ nb ≤ 3000 ∧ da ≤ 3000 by have h1 := Sx.nodes_size a; have h2 := Sx.nodes_size b; have h3 := Sx.depth_size a; have := HRA.out; have := HRB.out; omega)
          have hw1 : IntKind.i64.wrap ((na : Int) + 1) = (na : Int) + 1 := by have := HSB2.out; rw [IntKind.wrap_i64]; omega
          have hw2 : IntKind.i64.wrap ((da : Int) + 1) = (da : Int) + 1 := by have := HSB2.out; rw [IntKind.wrap_i64]; omega
          have HGO := Lib.hid (fun X X2 (h : (fun X => TriSt w (boxT a A1 c1 A2 c2 A3 c3) (boxT b B1 d1 B2 d2 B3 d3) #[.int .i64 5, .string ⟨#[]⟩, .slice none 0 0, .slice none 0 0, .slice (some ⟨pa, 0, none⟩) 1 1] pb a pa X ∧ StrRow X (.slice Ax nx nx) xs) X) (hb : Below X.heap.size X X2) => (show (fun X => TriSt w (boxT a A1 c1 A2 c2 A3 c3) (boxT b B1 d1 B2 d2 B3 d3) #[.int .i64 5, .string ⟨#[]⟩, .slice none 0 0, .slice none 0 0, .slice (some ⟨pa, 0, none⟩) 1 1] pb a pa X ∧ StrRow X (.slice Ax nx nx) xs) X2 from ⟨h.1.go hb, h.2.below hb⟩))
          have HND1 := Lib.hid (fun X v (h : TyRow X v [Sx.Ty.mk 5 [] [] [] [a]]) => (synNodes 20000 _ v X (by have := HRA.out; simp [Sx.sizeL, Sx.size]; omega) (by omega) h).mono fun e w2 h => (show e = .returned (.int .i64 ((na : Int) + 1)) ∧ Below X.heap.size X w2 from ⟨by rw [h.1, Sx.nodesL, Sx.nodesL, Sx.nodes, Sx.nodesL, Sx.nodesL, hna]; simp; omega, h.2⟩))
          have HND2 := Lib.hid (fun X v (h : TyRow X v [a]) => (synNodes 20000 _ v X (by have := HRA.out; simp [Sx.sizeL]; omega) (by omega) h).mono fun e w2 h => (show e = .returned (.int .i64 (na : Int)) ∧ Below X.heap.size X w2 from ⟨by rw [h.1, Sx.nodesL, Sx.nodesL, hna]; simp, h.2⟩))
          have HND3 := Lib.hid (fun X v (h : TyRow X v [a, b]) => (synNodes 20000 _ v X (by have := HRA.out; have := HRB.out; simp [Sx.sizeL]; omega) (by omega) h).mono fun e w2 h => (show e = .returned (.int .i64 ((na + nb : Nat) : Int)) ∧ Below X.heap.size X w2 from ⟨by rw [h.1, Sx.nodesL, Sx.nodesL, Sx.nodesL, hna, hnb]; rfl, h.2⟩))
          have HND4 := Lib.hid (fun X v (h : TyRow X v [b, a]) => (synNodes 20000 _ v X (by have := HRA.out; have := HRB.out; simp [Sx.sizeL]; omega) (by omega) h).mono fun e w2 h => (show e = .returned (.int .i64 ((na + nb : Nat) : Int)) ∧ Below X.heap.size X w2 from ⟨by rw [h.1, Sx.nodesL, Sx.nodesL, Sx.nodesL, hna, hnb, Nat.add_zero, Nat.add_comm], h.2⟩))
          have HND5 := Lib.hid (fun X => (synNodes 20000 [] (.slice none 0 0) X (by simp [Sx.sizeL]) (by omega) ⟨none, 0, rfl, Nat.le_refl _, by rw [IsTys]; trivial⟩).mono fun e w2 h => (show e = .returned (.int .i64 0) ∧ Below X.heap.size X w2 from ⟨by rw [h.1, Sx.nodesL]; rfl, h.2⟩))
          have HNM1 := Lib.hid (fun X v (h : TyRow X v [Sx.Ty.mk 5 [] [] [] [a]]) => (synNames _ v X (by have := HRA.out; simp [Sx.sizeL, Sx.size]; omega) h).mono fun e w2 h => (show ∃ u, e = .returned u ∧ StrRow w2 u xs ∧ Below X.heap.size X w2 by obtain ⟨A, h1, h2, h3⟩ := h; rw [hN4] at h1 h2; exact ⟨_, h1, h2, h3⟩))
          have HTT := Lib.hid (fun X v1 v2 (h1 : StrRow X v1 xs) (h2 : StrRow X v2 xs) => (keepTexts xs xs v1 v2 X h1 h2 (by have := HNX.out; omega) (by have := HNX.out; omega)).mono fun e w2 h => (show e = .returned (.bool true) ∧ Below X.heap.size X w2 from ⟨by rw [h.1]; simp, h.2⟩))
          have HDP1 := Lib.hid (fun X v (h : TyRow X v [Sx.Ty.mk 5 [] [] [] [a]]) => (synDepth 20000 _ v X (by have := HRA.out; simp [Sx.sizeL, Sx.size]; omega) (by omega) h).mono fun e w2 h => (show e = .returned (.int .i64 ((da : Int) + 1)) ∧ Below X.heap.size X w2 from ⟨by rw [h.1, Sx.depthL, Sx.depthL, Sx.depth, Sx.depthL, Sx.depthL, hda]; simp; omega, h.2⟩))
          have HDP2 := Lib.hid (fun X v (h : TyRow X v [a]) => (synDepth 20000 _ v X (by have := HRA.out; simp [Sx.sizeL]; omega) (by omega) h).mono fun e w2 h => (show e = .returned (.int .i64 (da : Int)) ∧ Below X.heap.size X w2 from ⟨by rw [h.1, Sx.depthL, Sx.depthL, hda]; simp, h.2⟩))
          have HSM := Lib.hid (fun X v u (h1 : IsTy X v (Sx.Ty.mk 5 [] [] [] [a])) (h2 : IsTy X u a) => (eqTypeAll _ (Sx.Ty.mk 5 [] [] [] [a]) (Nat.le_refl _) a v u X (by have := HRA.out; simp [Sx.sizeL, Sx.size]; omega) (by have := HRA.out; omega) h1 h2).mono fun e w2 h => (show e = .returned (.bool false) ∧ Below X.heap.size X w2 from ⟨by rw [h.1]; cases hq : Sx.eqT (Sx.Ty.mk 5 [] [] [] [a]) a with | false => rfl | true => exact absurd (congrArg Sx.size ((Sx.eqT_iff _ _).1 hq)) (by simp [Sx.size, Sx.sizeL] <;> omega), h.2⟩))
          have HRU := Lib.hid (fun X (hX : (fun X => TriSt w (boxT a A1 c1 A2 c2 A3 c3) (boxT b B1 d1 B2 d2 B3 d3) #[.int .i64 5, .string ⟨#[]⟩, .slice none 0 0, .slice none 0 0, .slice (some ⟨pa, 0, none⟩) 1 1] pb a pa X ∧ StrRow X (.slice Ax nx nx) xs) X) => (hruns X hX.1.two.lw.g hX.1.two.lw.n).mono fun e w2 h => (show e = .returned (.bool true) ∧ Below X.heap.size X w2 from ⟨h.1, h.2.b⟩))
          clear hna hnb hda hN4
          have hS0 : (fun X => TriSt w (boxT a A1 c1 A2 c2 A3 c3) (boxT b B1 d1 B2 d2 B3 d3) #[.int .i64 5, .string ⟨#[]⟩, .slice none 0 0, .slice none 0 0, .slice (some ⟨pa, 0, none⟩) 1 1] pb a pa X ∧ StrRow X (.slice Ax nx nx) xs) w12.drew := HGO.out _ _ H12.out (Below.drewN (Below.refl _ _) 1)
          obtain ⟨Fs, hFs⟩ : ∃ F : List (Value → World → Value → Nat → Prop), [IsF (.agg #[.int .i64 5, .string ⟨#[]⟩, .slice none 0 0, .slice none 0 0, .slice (some ⟨pa, 0, none⟩) 1 1]), WF (fun x w => TyRow w x [Sx.Ty.mk 5 [] [] [] [a]]), IsF (.int .i64 ((na : Int) + 1)), IsF (.agg #[.int .i64 a.kind, .string ⟨a.name.toArray⟩, .slice A1 a.names.length c1, .slice A2 a.embeds.length c2, .slice A3 a.parts.length c3]), WF (fun x w => TyRow w x [a]), IsF (.int .i64 (na : Int)), IsF (.int .i64 ((na : Int) + 1)), IsF (.bool true), IsF (.bool true), IsF (.agg #[.int .i64 5, .string ⟨#[]⟩, .slice none 0 0, .slice none 0 0, .slice (some ⟨pa, 0, none⟩) 1 1]), WF (fun x w => TyRow w x [Sx.Ty.mk 5 [] [] [] [a]]), WF (fun x w => StrRow w x xs), IsF (.slice Ax nx nx), IsF (.bool true), IsF (.bool true), IsF (.bool true), IsF (.agg #[.int .i64 5, .string ⟨#[]⟩, .slice none 0 0, .slice none 0 0, .slice (some ⟨pa, 0, none⟩) 1 1]), WF (fun x w => TyRow w x [Sx.Ty.mk 5 [] [] [] [a]]), IsF (.int .i64 ((da : Int) + 1)), IsF (.agg #[.int .i64 a.kind, .string ⟨a.name.toArray⟩, .slice A1 a.names.length c1, .slice A2 a.embeds.length c2, .slice A3 a.parts.length c3]), WF (fun x w => TyRow w x [a]), IsF (.int .i64 (da : Int)), IsF (.int .i64 ((da : Int) + 1)), IsF (.bool true), IsF (.bool true), IsF (.bool true), IsF (.agg #[.int .i64 5, .string ⟨#[]⟩, .slice none 0 0, .slice none 0 0, .slice (some ⟨pa, 0, none⟩) 1 1]), IsF (.agg #[.int .i64 a.kind, .string ⟨a.name.toArray⟩, .slice A1 a.names.length c1, .slice A2 a.embeds.length c2, .slice A3 a.parts.length c3]), IsF (.bool false), IsF (.bool true), IsF (.bool true), IsF (.bool true), IsF (.agg #[.int .i64 a.kind, .string ⟨a.name.toArray⟩, .slice A1 a.names.length c1, .slice A2 a.embeds.length c2, .slice A3 a.parts.length c3]), IsF (.agg #[.int .i64 b.kind, .string ⟨b.name.toArray⟩, .slice B1 b.names.length d1, .slice B2 b.embeds.length d2, .slice B3 b.parts.length d3]), WF (fun x w => TyRow w x [a, b]), IsF (.int .i64 ((na + nb : Nat) : Int)), IsF (.agg #[.int .i64 b.kind, .string ⟨b.name.toArray⟩, .slice B1 b.names.length d1, .slice B2 b.embeds.length d2, .slice B3 b.parts.length d3]), IsF (.agg #[.int .i64 a.kind, .string ⟨a.name.toArray⟩, .slice A1 a.names.length c1, .slice A2 a.embeds.length c2, .slice A3 a.parts.length c3]), WF (fun x w => TyRow w x [b, a]), IsF (.int .i64 ((na + nb : Nat) : Int)), IsF (.bool true), IsF (.bool true), IsF (.bool true), IsF (.int .i64 0), IsF (.bool true), IsF (.bool true), IsF (.bool true), IsF (.bool true), IsF (.bool true), IsF (.bool true)] = F := ⟨_, rfl⟩
          have F0 : nth Fs 0 = IsF (.agg #[.int .i64 5, .string ⟨#[]⟩, .slice none 0 0, .slice none 0 0, .slice (some ⟨pa, 0, none⟩) 1 1]) := by rw [← hFs]; rfl
          have F1 : nth Fs 1 = WF (fun x w => TyRow w x [Sx.Ty.mk 5 [] [] [] [a]]) := by rw [← hFs]; rfl
          have F2 : nth Fs 2 = IsF (.int .i64 ((na : Int) + 1)) := by rw [← hFs]; rfl
          have F3 : nth Fs 3 = IsF (.agg #[.int .i64 a.kind, .string ⟨a.name.toArray⟩, .slice A1 a.names.length c1, .slice A2 a.embeds.length c2, .slice A3 a.parts.length c3]) := by rw [← hFs]; rfl
          have F4 : nth Fs 4 = WF (fun x w => TyRow w x [a]) := by rw [← hFs]; rfl
          have F5 : nth Fs 5 = IsF (.int .i64 (na : Int)) := by rw [← hFs]; rfl
          have F6 : nth Fs 6 = IsF (.int .i64 ((na : Int) + 1)) := by rw [← hFs]; rfl
          have F7 : nth Fs 7 = IsF (.bool true) := by rw [← hFs]; rfl
          have F8 : nth Fs 8 = IsF (.bool true) := by rw [← hFs]; rfl
          have F9 : nth Fs 9 = IsF (.agg #[.int .i64 5, .string ⟨#[]⟩, .slice none 0 0, .slice none 0 0, .slice (some ⟨pa, 0, none⟩) 1 1]) := by rw [← hFs]; rfl
          have F10 : nth Fs 10 = WF (fun x w => TyRow w x [Sx.Ty.mk 5 [] [] [] [a]]) := by rw [← hFs]; rfl
          have F11 : nth Fs 11 = WF (fun x w => StrRow w x xs) := by rw [← hFs]; rfl
          have F12 : nth Fs 12 = IsF (.slice Ax nx nx) := by rw [← hFs]; rfl
          have F13 : nth Fs 13 = IsF (.bool true) := by rw [← hFs]; rfl
          have F14 : nth Fs 14 = IsF (.bool true) := by rw [← hFs]; rfl
          have F15 : nth Fs 15 = IsF (.bool true) := by rw [← hFs]; rfl
          have F16 : nth Fs 16 = IsF (.agg #[.int .i64 5, .string ⟨#[]⟩, .slice none 0 0, .slice none 0 0, .slice (some ⟨pa, 0, none⟩) 1 1]) := by rw [← hFs]; rfl
          have F17 : nth Fs 17 = WF (fun x w => TyRow w x [Sx.Ty.mk 5 [] [] [] [a]]) := by rw [← hFs]; rfl
          have F18 : nth Fs 18 = IsF (.int .i64 ((da : Int) + 1)) := by rw [← hFs]; rfl
          have F19 : nth Fs 19 = IsF (.agg #[.int .i64 a.kind, .string ⟨a.name.toArray⟩, .slice A1 a.names.length c1, .slice A2 a.embeds.length c2, .slice A3 a.parts.length c3]) := by rw [← hFs]; rfl
          have F20 : nth Fs 20 = WF (fun x w => TyRow w x [a]) := by rw [← hFs]; rfl
          have F21 : nth Fs 21 = IsF (.int .i64 (da : Int)) := by rw [← hFs]; rfl
          have F22 : nth Fs 22 = IsF (.int .i64 ((da : Int) + 1)) := by rw [← hFs]; rfl
          have F23 : nth Fs 23 = IsF (.bool true) := by rw [← hFs]; rfl
          have F24 : nth Fs 24 = IsF (.bool true) := by rw [← hFs]; rfl
          have F25 : nth Fs 25 = IsF (.bool true) := by rw [← hFs]; rfl
          have F26 : nth Fs 26 = IsF (.agg #[.int .i64 5, .string ⟨#[]⟩, .slice none 0 0, .slice none 0 0, .slice (some ⟨pa, 0, none⟩) 1 1]) := by rw [← hFs]; rfl
          have F27 : nth Fs 27 = IsF (.agg #[.int .i64 a.kind, .string ⟨a.name.toArray⟩, .slice A1 a.names.length c1, .slice A2 a.embeds.length c2, .slice A3 a.parts.length c3]) := by rw [← hFs]; rfl
          have F28 : nth Fs 28 = IsF (.bool false) := by rw [← hFs]; rfl
          have F29 : nth Fs 29 = IsF (.bool true) := by rw [← hFs]; rfl
          have F30 : nth Fs 30 = IsF (.bool true) := by rw [← hFs]; rfl
          have F31 : nth Fs 31 = IsF (.bool true) := by rw [← hFs]; rfl
          have F32 : nth Fs 32 = IsF (.agg #[.int .i64 a.kind, .string ⟨a.name.toArray⟩, .slice A1 a.names.length c1, .slice A2 a.embeds.length c2, .slice A3 a.parts.length c3]) := by rw [← hFs]; rfl
          have F33 : nth Fs 33 = IsF (.agg #[.int .i64 b.kind, .string ⟨b.name.toArray⟩, .slice B1 b.names.length d1, .slice B2 b.embeds.length d2, .slice B3 b.parts.length d3]) := by rw [← hFs]; rfl
          have F34 : nth Fs 34 = WF (fun x w => TyRow w x [a, b]) := by rw [← hFs]; rfl
          have F35 : nth Fs 35 = IsF (.int .i64 ((na + nb : Nat) : Int)) := by rw [← hFs]; rfl
          have F36 : nth Fs 36 = IsF (.agg #[.int .i64 b.kind, .string ⟨b.name.toArray⟩, .slice B1 b.names.length d1, .slice B2 b.embeds.length d2, .slice B3 b.parts.length d3]) := by rw [← hFs]; rfl
          have F37 : nth Fs 37 = IsF (.agg #[.int .i64 a.kind, .string ⟨a.name.toArray⟩, .slice A1 a.names.length c1, .slice A2 a.embeds.length c2, .slice A3 a.parts.length c3]) := by rw [← hFs]; rfl
          have F38 : nth Fs 38 = WF (fun x w => TyRow w x [b, a]) := by rw [← hFs]; rfl
          have F39 : nth Fs 39 = IsF (.int .i64 ((na + nb : Nat) : Int)) := by rw [← hFs]; rfl
          have F40 : nth Fs 40 = IsF (.bool true) := by rw [← hFs]; rfl
          have F41 : nth Fs 41 = IsF (.bool true) := by rw [← hFs]; rfl
          have F42 : nth Fs 42 = IsF (.bool true) := by rw [← hFs]; rfl
          have F43 : nth Fs 43 = IsF (.int .i64 0) := by rw [← hFs]; rfl
          have F44 : nth Fs 44 = IsF (.bool true) := by rw [← hFs]; rfl
          have F45 : nth Fs 45 = IsF (.bool true) := by rw [← hFs]; rfl
          have F46 : nth Fs 46 = IsF (.bool true) := by rw [← hFs]; rfl
          have F47 : nth Fs 47 = IsF (.bool true) := by rw [← hFs]; rfl
          have F48 : nth Fs 48 = IsF (.bool true) := by rw [← hFs]; rfl
          have F49 : nth Fs 49 = IsF (.bool true) := by rw [← hFs]; rfl
          have hstay : AllStay StM Fs := by rw [← hFs]; exact AllStay.cons (IsF.stays) (AllStay.cons (WF.tys) (AllStay.cons (IsF.stays) (AllStay.cons (IsF.stays) (AllStay.cons (WF.tys) (AllStay.cons (IsF.stays) (AllStay.cons (IsF.stays) (AllStay.cons (IsF.stays) (AllStay.cons (IsF.stays) (AllStay.cons (IsF.stays) (AllStay.cons (WF.tys) (AllStay.cons (WF.row) (AllStay.cons (IsF.stays) (AllStay.cons (IsF.stays) (AllStay.cons (IsF.stays) (AllStay.cons (IsF.stays) (AllStay.cons (IsF.stays) (AllStay.cons (WF.tys) (AllStay.cons (IsF.stays) (AllStay.cons (IsF.stays) (AllStay.cons (WF.tys) (AllStay.cons (IsF.stays) (AllStay.cons (IsF.stays) (AllStay.cons (IsF.stays) (AllStay.cons (IsF.stays) (AllStay.cons (IsF.stays) (AllStay.cons (IsF.stays) (AllStay.cons (IsF.stays) (AllStay.cons (IsF.stays) (AllStay.cons (IsF.stays) (AllStay.cons (IsF.stays) (AllStay.cons (IsF.stays) (AllStay.cons (IsF.stays) (AllStay.cons (IsF.stays) (AllStay.cons (WF.tys) (AllStay.cons (IsF.stays) (AllStay.cons (IsF.stays) (AllStay.cons (IsF.stays) (AllStay.cons (WF.tys) (AllStay.cons (IsF.stays) (AllStay.cons (IsF.stays) (AllStay.cons (IsF.stays) (AllStay.cons (IsF.stays) (AllStay.cons (IsF.stays) (AllStay.cons (IsF.stays) (AllStay.cons (IsF.stays) (AllStay.cons (IsF.stays) (AllStay.cons (IsF.stays) (AllStay.cons (IsF.stays) (AllStay.cons (IsF.stays) (AllStay.nil))))))))))))))))))))))))))))))))))))))))))))))))))
          clear hFs
          refine wp_region_facts (by kernel_rfl) [] (StI (fun X => TriSt w (boxT a A1 c1 A2 c2 A3 c3) (boxT b B1 d1 B2 d2 B3 d3) #[.int .i64 5, .string ⟨#[]⟩, .slice none 0 0, .slice none 0 0, .slice (some ⟨pa, 0, none⟩) 1 1] pb a pa X ∧ StrRow X (.slice Ax nx nx) xs)) StM Fs undef (by kernel_rfl) (by kernel_rfl) (by kernel_rfl) (by kernel_rfl) (by kernel_rfl) hstay (n := 50) (by kernel_rfl) (hS0) ?_ ?_
          · refine OpsOk.cons ?_ (OpsOk.cons ?_ (OpsOk.cons ?_ (OpsOk.cons ?_ (OpsOk.cons ?_ (OpsOk.cons ?_ (OpsOk.cons ?_ (OpsOk.cons ?_ (OpsOk.cons ?_ (OpsOk.cons ?_ (OpsOk.cons ?_ (OpsOk.cons ?_ (OpsOk.cons ?_ (OpsOk.cons ?_ (OpsOk.cons ?_ (OpsOk.cons ?_ (OpsOk.cons ?_ (OpsOk.cons ?_ (OpsOk.cons ?_ (OpsOk.cons ?_ (OpsOk.cons ?_ (OpsOk.cons ?_ (OpsOk.cons ?_ (OpsOk.cons ?_ (OpsOk.cons ?_ (OpsOk.cons ?_ (OpsOk.cons ?_ (OpsOk.cons ?_ (OpsOk.cons ?_ (OpsOk.cons ?_ (OpsOk.cons ?_ (OpsOk.cons ?_ (OpsOk.cons ?_ (OpsOk.cons ?_ (OpsOk.cons ?_ (OpsOk.cons ?_ (OpsOk.cons ?_ (OpsOk.cons ?_ (OpsOk.cons ?_ (OpsOk.cons ?_ (OpsOk.cons ?_ (OpsOk.cons ?_ (OpsOk.cons ?_ (OpsOk.cons ?_ (OpsOk.cons ?_ (OpsOk.cons ?_ (OpsOk.cons ?_ (OpsOk.cons ?_ (OpsOk.cons ?_ (OpsOk.cons ?_ (OpsOk.nil))))))))))))))))))))))))))))))))))))))))))))))))))
            · -- 0: slot 72, load
              refine OpOk.plain (by kernel_rfl) rfl ?_
              intro ρ uq Lq wq rq kq hs hs0 hcst hglb hfun hL hC hN hF hU hap hI K hK
              have e9 : ρ (.tmp 9) = .pointer (some ⟨pb, 0, none⟩) := hs0 9 (by kernel_rfl)
              clear hs hs0 hglb hfun hL hC hN hF hU hap
              obtain ⟨z0, z1, z2, z3, z4⟩ := five_cells hI.1.kp
              have lz := lt_of_block hI.1.kp
              go_simp
              exact hK.out _ _ rq (Below.refl _ _) hI (to_nth F0 rfl)
            · -- 1: slot 73, buildSlice
              refine OpOk.plain (by kernel_rfl) rfl ?_
              intro ρ uq Lq wq rq kq hs hs0 hcst hglb hfun hL hC hN hF hU hap hI K hK
              have e72 : ρ (.tmp 72) = .agg #[.int .i64 5, .string ⟨#[]⟩, .slice none 0 0, .slice none 0 0, .slice (some ⟨pa, 0, none⟩) 1 1] := (hs 72 0 (by kernel_rfl)).trans (of_nth F0 (hF 0 (hL 0 (by kernel_rfl))))
              clear hs hs0 hglb hfun hL hC hN hF hU hap
              go_simp
              exact hK.out _ _ rq ((Below.refl _ _).alloc (Nat.le_refl _) _) (HGO.out _ _ hI ((Below.refl _ _).alloc (Nat.le_refl _) _)) (to_nth F1 (TyRow.new1 hI.1.ty))
            · -- 2: slot 74, call
              refine OpOk.plain (by kernel_rfl) rfl ?_
              intro ρ uq Lq wq rq kq hs hs0 hcst hglb hfun hL hC hN hF hU hap hI K hK
              have e73 : ρ (.tmp 73) = uq 1 := hs 73 1 (by kernel_rfl)
              have p73 := of_nth F1 (hF 1 (hL 1 (by kernel_rfl)))
              obtain ⟨q73, hq73⟩ : ∃ q, uq 1 = q := ⟨_, rfl⟩
              rw [hq73] at e73 p73
              clear hs hs0 hglb hL hC hN hF hU hap
              refine opWp_call (args := #[q73]) rfl Tryz.func15 (by kernel_rfl) rfl (hfun _) (by simp only [List.map_toArray, List.map_cons, List.map_nil, hcst, e73]) ?_
              clear hfun hcst e73
              refine (HND1.out wq _ p73).mono ?_
              rintro e w5 ⟨rfl, hb5⟩
              exact ⟨_, rfl, hK.out _ _ rq hb5 (HGO.out _ _ hI hb5) (to_nth F2 (rfl))⟩
            · -- 3: slot 75, load
              refine OpOk.plain (by kernel_rfl) rfl ?_
              intro ρ uq Lq wq rq kq hs hs0 hcst hglb hfun hL hC hN hF hU hap hI K hK
              have e2 : ρ (.tmp 2) = .pointer (some ⟨L, 0, none⟩) := hs0 2 (by kernel_rfl)
              clear hs hs0 hglb hfun hL hC hN hF hU hap
              obtain ⟨⟨x0, x1, x2, x3, x4⟩, ⟨y0, y1, y2, y3, y4⟩, l1, l2⟩ := ten_cells hI.1.two hL
              go_simp
              exact hK.out _ _ rq (Below.refl _ _) hI (to_nth F3 rfl)
            · -- 4: slot 76, buildSlice
              refine OpOk.plain (by kernel_rfl) rfl ?_
              intro ρ uq Lq wq rq kq hs hs0 hcst hglb hfun hL hC hN hF hU hap hI K hK
              have e75 : ρ (.tmp 75) = .agg #[.int .i64 a.kind, .string ⟨a.name.toArray⟩, .slice A1 a.names.length c1, .slice A2 a.embeds.length c2, .slice A3 a.parts.length c3] := (hs 75 3 (by kernel_rfl)).trans (of_nth F3 (hF 3 (hL 3 (by kernel_rfl))))
              clear hs hs0 hglb hfun hL hC hN hF hU hap
              go_simp
              exact hK.out _ _ rq ((Below.refl _ _).alloc (Nat.le_refl _) _) (HGO.out _ _ hI ((Below.refl _ _).alloc (Nat.le_refl _) _)) (to_nth F4 (TyRow.new1 (IsTy.below hI.1.two.lw.b _ _ HTA.out)))
            · -- 5: slot 77, call
              refine OpOk.plain (by kernel_rfl) rfl ?_
              intro ρ uq Lq wq rq kq hs hs0 hcst hglb hfun hL hC hN hF hU hap hI K hK
              have e76 : ρ (.tmp 76) = uq 4 := hs 76 4 (by kernel_rfl)
              have p76 := of_nth F4 (hF 4 (hL 4 (by kernel_rfl)))
              obtain ⟨q76, hq76⟩ : ∃ q, uq 4 = q := ⟨_, rfl⟩
              rw [hq76] at e76 p76
              clear hs hs0 hglb hL hC hN hF hU hap
              refine opWp_call (args := #[q76]) rfl Tryz.func15 (by kernel_rfl) rfl (hfun _) (by simp only [List.map_toArray, List.map_cons, List.map_nil, hcst, e76]) ?_
              clear hfun hcst e76
              refine (HND2.out wq _ p76).mono ?_
              rintro e w5 ⟨rfl, hb5⟩
              exact ⟨_, rfl, hK.out _ _ rq hb5 (HGO.out _ _ hI hb5) (to_nth F5 (rfl))⟩
            · -- 6: slot 78, binOp
              refine OpOk.plain (by kernel_rfl) rfl ?_
              intro ρ uq Lq wq rq kq hs hs0 hcst hglb hfun hL hC hN hF hU hap hI K hK
              have e77 : ρ (.tmp 77) = .int .i64 (na : Int) := (hs 77 5 (by kernel_rfl)).trans (of_nth F5 (hF 5 (hL 5 (by kernel_rfl))))
              clear hs hs0 hglb hfun hL hC hN hF hU hap
              go_simp
              exact hK.out _ _ rq (Below.refl _ _) hI (to_nth F6 rfl)
            · -- 7: slot 79, binOp
              refine OpOk.plain (by kernel_rfl) rfl ?_
              intro ρ uq Lq wq rq kq hs hs0 hcst hglb hfun hL hC hN hF hU hap hI K hK
              have e74 : ρ (.tmp 74) = .int .i64 ((na : Int) + 1) := (hs 74 2 (by kernel_rfl)).trans (of_nth F2 (hF 2 (hL 2 (by kernel_rfl))))
              have e78 : ρ (.tmp 78) = .int .i64 ((na : Int) + 1) := (hs 78 6 (by kernel_rfl)).trans (of_nth F6 (hF 6 (hL 6 (by kernel_rfl))))
              clear hs hs0 hglb hfun hL hC hN hF hU hap
              go_simp
              exact hK.out _ _ rq (Below.refl _ _) hI (to_nth F7 rfl)
            · -- 8: slot 80, move
              refine OpOk.plain (by kernel_rfl) rfl ?_
              intro ρ uq Lq wq rq kq hs hs0 hcst hglb hfun hL hC hN hF hU hap hI K hK
              have e79 : ρ (.tmp 79) = .bool true := (hs 79 7 (by kernel_rfl)).trans (of_nth F7 (hF 7 (hL 7 (by kernel_rfl))))
              exact opWp_move (.tmp 79) rfl e79 (hK.out _ _ rq (Below.refl _ _) hI (to_nth F8 rfl))
            · -- 9: slot 81, load
              refine OpOk.guard (by kernel_rfl) rfl (by kernel_rfl) ?_
              intro ρ uq Lq wq rq kq hs hs0 hcst hglb hfun hL hC hN hF hU hap hI K hK
              refine ⟨true, of_nth F8 (hF 8 (hL 8 (by kernel_rfl))), fun _ => ?_, fun h => absurd rfl h⟩
              have e9 : ρ (.tmp 9) = .pointer (some ⟨pb, 0, none⟩) := hs0 9 (by kernel_rfl)
              clear hs hs0 hglb hfun hL hC hN hF hU hap
              obtain ⟨z0, z1, z2, z3, z4⟩ := five_cells hI.1.kp
              have lz := lt_of_block hI.1.kp
              go_simp
              exact hK.out _ _ rq (Below.refl _ _) hI (to_nth F9 rfl)
            · -- 10: slot 82, buildSlice
              refine OpOk.guard (by kernel_rfl) rfl (by kernel_rfl) ?_
              intro ρ uq Lq wq rq kq hs hs0 hcst hglb hfun hL hC hN hF hU hap hI K hK
              refine ⟨true, of_nth F8 (hF 8 (hL 8 (by kernel_rfl))), fun _ => ?_, fun h => absurd rfl h⟩
              have e81 : ρ (.tmp 81) = .agg #[.int .i64 5, .string ⟨#[]⟩, .slice none 0 0, .slice none 0 0, .slice (some ⟨pa, 0, none⟩) 1 1] := (hs 81 9 (by kernel_rfl)).trans (of_nth F9 (hF 9 (hL 9 (by kernel_rfl))))
              clear hs hs0 hglb hfun hL hC hN hF hU hap
              go_simp
              exact hK.out _ _ rq ((Below.refl _ _).alloc (Nat.le_refl _) _) (HGO.out _ _ hI ((Below.refl _ _).alloc (Nat.le_refl _) _)) (to_nth F10 (TyRow.new1 hI.1.ty))
            · -- 11: slot 83, call
              refine OpOk.guard (by kernel_rfl) rfl (by kernel_rfl) ?_
              intro ρ uq Lq wq rq kq hs hs0 hcst hglb hfun hL hC hN hF hU hap hI K hK
              refine ⟨true, of_nth F8 (hF 8 (hL 8 (by kernel_rfl))), fun _ => ?_, fun h => absurd rfl h⟩
              have e82 : ρ (.tmp 82) = uq 10 := hs 82 10 (by kernel_rfl)
              have p82 := of_nth F10 (hF 10 (hL 10 (by kernel_rfl)))
              obtain ⟨q82, hq82⟩ : ∃ q, uq 10 = q := ⟨_, rfl⟩
              rw [hq82] at e82 p82
              clear hs hs0 hglb hL hC hN hF hU hap
              refine opWp_call (args := #[q82]) rfl Tryz.func17 (by kernel_rfl) rfl (hfun _) (by simp only [List.map_toArray, List.map_cons, List.map_nil, hcst, e82]) ?_
              clear hfun hcst e82
              refine (HNM1.out wq _ p82).mono ?_
              rintro e w5 ⟨u5, rfl, hr5, hb5⟩
              exact ⟨_, rfl, hK.out _ _ rq hb5 (HGO.out _ _ hI hb5) (to_nth F11 (hr5))⟩
            · -- 12: slot 84, move
              refine OpOk.guard (by kernel_rfl) rfl (by kernel_rfl) ?_
              intro ρ uq Lq wq rq kq hs hs0 hcst hglb hfun hL hC hN hF hU hap hI K hK
              refine ⟨true, of_nth F8 (hF 8 (hL 8 (by kernel_rfl))), fun _ => ?_, fun h => absurd rfl h⟩
              have e5 : ρ (.tmp 5) = .slice Ax nx nx := hs0 5 (by kernel_rfl)
              exact opWp_move (.tmp 5) rfl e5 (hK.out _ _ rq (Below.refl _ _) hI (to_nth F12 rfl))
            · -- 13: slot 85, call
              refine OpOk.guard (by kernel_rfl) rfl (by kernel_rfl) ?_
              intro ρ uq Lq wq rq kq hs hs0 hcst hglb hfun hL hC hN hF hU hap hI K hK
              refine ⟨true, of_nth F8 (hF 8 (hL 8 (by kernel_rfl))), fun _ => ?_, fun h => absurd rfl h⟩
              have e83 : ρ (.tmp 83) = uq 11 := hs 83 11 (by kernel_rfl)
              have p83 := of_nth F11 (hF 11 (hL 11 (by kernel_rfl)))
              obtain ⟨q83, hq83⟩ : ∃ q, uq 11 = q := ⟨_, rfl⟩
              rw [hq83] at e83 p83
              have e84 : ρ (.tmp 84) = .slice Ax nx nx := (hs 84 12 (by kernel_rfl)).trans (of_nth F12 (hF 12 (hL 12 (by kernel_rfl))))
              clear hs hs0 hglb hL hC hN hF hU hap
              refine opWp_call (args := #[q83, .slice Ax nx nx]) rfl Tryz.func46 (by kernel_rfl) rfl (hfun _) (by simp only [List.map_toArray, List.map_cons, List.map_nil, hcst, e83, e84]) ?_
              clear hfun hcst e83 e84
              refine (HTT.out wq _ _ p83 hI.2).mono ?_
              rintro e w5 ⟨rfl, hb5⟩
              exact ⟨_, rfl, hK.out _ _ rq hb5 (HGO.out _ _ hI hb5) (to_nth F13 (rfl))⟩
            · -- 14: slot 86, pick
              refine OpOk.plain (by kernel_rfl) rfl ?_
              intro ρ uq Lq wq rq kq hs hs0 hcst hglb hfun hL hC hN hF hU hap hI K hK
              have e80 : ρ (.tmp 80) = .bool true := (hs 80 8 (by kernel_rfl)).trans (of_nth F8 (hF 8 (hL 8 (by kernel_rfl))))
              have e85 : ρ (.tmp 85) = .bool true := (hs 85 13 (by kernel_rfl)).trans (of_nth F13 (hF 13 (hL 13 (by kernel_rfl))))
              clear hs hs0 hglb hfun hL hC hN hF hU hap
              go_simp
              exact hK.out _ _ rq (Below.refl _ _) hI (to_nth F14 rfl)
            · -- 15: slot 87, move
              refine OpOk.plain (by kernel_rfl) rfl ?_
              intro ρ uq Lq wq rq kq hs hs0 hcst hglb hfun hL hC hN hF hU hap hI K hK
              have e86 : ρ (.tmp 86) = .bool true := (hs 86 14 (by kernel_rfl)).trans (of_nth F14 (hF 14 (hL 14 (by kernel_rfl))))
              exact opWp_move (.tmp 86) rfl e86 (hK.out _ _ rq (Below.refl _ _) hI (to_nth F15 rfl))
            · -- 16: slot 88, load
              refine OpOk.guard (by kernel_rfl) rfl (by kernel_rfl) ?_
              intro ρ uq Lq wq rq kq hs hs0 hcst hglb hfun hL hC hN hF hU hap hI K hK
              refine ⟨true, of_nth F15 (hF 15 (hL 15 (by kernel_rfl))), fun _ => ?_, fun h => absurd rfl h⟩
              have e9 : ρ (.tmp 9) = .pointer (some ⟨pb, 0, none⟩) := hs0 9 (by kernel_rfl)
              clear hs hs0 hglb hfun hL hC hN hF hU hap
              obtain ⟨z0, z1, z2, z3, z4⟩ := five_cells hI.1.kp
              have lz := lt_of_block hI.1.kp
              go_simp
              exact hK.out _ _ rq (Below.refl _ _) hI (to_nth F16 rfl)
            · -- 17: slot 89, buildSlice
              refine OpOk.guard (by kernel_rfl) rfl (by kernel_rfl) ?_
              intro ρ uq Lq wq rq kq hs hs0 hcst hglb hfun hL hC hN hF hU hap hI K hK
              refine ⟨true, of_nth F15 (hF 15 (hL 15 (by kernel_rfl))), fun _ => ?_, fun h => absurd rfl h⟩
              have e88 : ρ (.tmp 88) = .agg #[.int .i64 5, .string ⟨#[]⟩, .slice none 0 0, .slice none 0 0, .slice (some ⟨pa, 0, none⟩) 1 1] := (hs 88 16 (by kernel_rfl)).trans (of_nth F16 (hF 16 (hL 16 (by kernel_rfl))))
              clear hs hs0 hglb hfun hL hC hN hF hU hap
              go_simp
              exact hK.out _ _ rq ((Below.refl _ _).alloc (Nat.le_refl _) _) (HGO.out _ _ hI ((Below.refl _ _).alloc (Nat.le_refl _) _)) (to_nth F17 (TyRow.new1 hI.1.ty))
            · -- 18: slot 90, call
              refine OpOk.guard (by kernel_rfl) rfl (by kernel_rfl) ?_
              intro ρ uq Lq wq rq kq hs hs0 hcst hglb hfun hL hC hN hF hU hap hI K hK
              refine ⟨true, of_nth F15 (hF 15 (hL 15 (by kernel_rfl))), fun _ => ?_, fun h => absurd rfl h⟩
              have e89 : ρ (.tmp 89) = uq 17 := hs 89 17 (by kernel_rfl)
              have p89 := of_nth F17 (hF 17 (hL 17 (by kernel_rfl)))
              obtain ⟨q89, hq89⟩ : ∃ q, uq 17 = q := ⟨_, rfl⟩
              rw [hq89] at e89 p89
              clear hs hs0 hglb hL hC hN hF hU hap
              refine opWp_call (args := #[q89]) rfl Tryz.func18 (by kernel_rfl) rfl (hfun _) (by simp only [List.map_toArray, List.map_cons, List.map_nil, hcst, e89]) ?_
              clear hfun hcst e89
              refine (HDP1.out wq _ p89).mono ?_
              rintro e w5 ⟨rfl, hb5⟩
              exact ⟨_, rfl, hK.out _ _ rq hb5 (HGO.out _ _ hI hb5) (to_nth F18 (rfl))⟩
            · -- 19: slot 91, load
              refine OpOk.guard (by kernel_rfl) rfl (by kernel_rfl) ?_
              intro ρ uq Lq wq rq kq hs hs0 hcst hglb hfun hL hC hN hF hU hap hI K hK
              refine ⟨true, of_nth F15 (hF 15 (hL 15 (by kernel_rfl))), fun _ => ?_, fun h => absurd rfl h⟩
              have e2 : ρ (.tmp 2) = .pointer (some ⟨L, 0, none⟩) := hs0 2 (by kernel_rfl)
              clear hs hs0 hglb hfun hL hC hN hF hU hap
              obtain ⟨⟨x0, x1, x2, x3, x4⟩, ⟨y0, y1, y2, y3, y4⟩, l1, l2⟩ := ten_cells hI.1.two hL
              go_simp
              exact hK.out _ _ rq (Below.refl _ _) hI (to_nth F19 rfl)
            · -- 20: slot 92, buildSlice
              refine OpOk.guard (by kernel_rfl) rfl (by kernel_rfl) ?_
              intro ρ uq Lq wq rq kq hs hs0 hcst hglb hfun hL hC hN hF hU hap hI K hK
              refine ⟨true, of_nth F15 (hF 15 (hL 15 (by kernel_rfl))), fun _ => ?_, fun h => absurd rfl h⟩
              have e91 : ρ (.tmp 91) = .agg #[.int .i64 a.kind, .string ⟨a.name.toArray⟩, .slice A1 a.names.length c1, .slice A2 a.embeds.length c2, .slice A3 a.parts.length c3] := (hs 91 19 (by kernel_rfl)).trans (of_nth F19 (hF 19 (hL 19 (by kernel_rfl))))
              clear hs hs0 hglb hfun hL hC hN hF hU hap
              go_simp
              exact hK.out _ _ rq ((Below.refl _ _).alloc (Nat.le_refl _) _) (HGO.out _ _ hI ((Below.refl _ _).alloc (Nat.le_refl _) _)) (to_nth F20 (TyRow.new1 (IsTy.below hI.1.two.lw.b _ _ HTA.out)))
            · -- 21: slot 93, call
              refine OpOk.guard (by kernel_rfl) rfl (by kernel_rfl) ?_
              intro ρ uq Lq wq rq kq hs hs0 hcst hglb hfun hL hC hN hF hU hap hI K hK
              refine ⟨true, of_nth F15 (hF 15 (hL 15 (by kernel_rfl))), fun _ => ?_, fun h => absurd rfl h⟩
              have e92 : ρ (.tmp 92) = uq 20 := hs 92 20 (by kernel_rfl)
              have p92 := of_nth F20 (hF 20 (hL 20 (by kernel_rfl)))
              obtain ⟨q92, hq92⟩ : ∃ q, uq 20 = q := ⟨_, rfl⟩
              rw [hq92] at e92 p92
              clear hs hs0 hglb hL hC hN hF hU hap
              refine opWp_call (args := #[q92]) rfl Tryz.func18 (by kernel_rfl) rfl (hfun _) (by simp only [List.map_toArray, List.map_cons, List.map_nil, hcst, e92]) ?_
              clear hfun hcst e92
              refine (HDP2.out wq _ p92).mono ?_
              rintro e w5 ⟨rfl, hb5⟩
              exact ⟨_, rfl, hK.out _ _ rq hb5 (HGO.out _ _ hI hb5) (to_nth F21 (rfl))⟩
            · -- 22: slot 94, binOp
              refine OpOk.guard (by kernel_rfl) rfl (by kernel_rfl) ?_
              intro ρ uq Lq wq rq kq hs hs0 hcst hglb hfun hL hC hN hF hU hap hI K hK
              refine ⟨true, of_nth F15 (hF 15 (hL 15 (by kernel_rfl))), fun _ => ?_, fun h => absurd rfl h⟩
              have e93 : ρ (.tmp 93) = .int .i64 (da : Int) := (hs 93 21 (by kernel_rfl)).trans (of_nth F21 (hF 21 (hL 21 (by kernel_rfl))))
              clear hs hs0 hglb hfun hL hC hN hF hU hap
              go_simp
              exact hK.out _ _ rq (Below.refl _ _) hI (to_nth F22 rfl)
            · -- 23: slot 95, binOp
              refine OpOk.guard (by kernel_rfl) rfl (by kernel_rfl) ?_
              intro ρ uq Lq wq rq kq hs hs0 hcst hglb hfun hL hC hN hF hU hap hI K hK
              refine ⟨true, of_nth F15 (hF 15 (hL 15 (by kernel_rfl))), fun _ => ?_, fun h => absurd rfl h⟩
              have e90 : ρ (.tmp 90) = .int .i64 ((da : Int) + 1) := (hs 90 18 (by kernel_rfl)).trans (of_nth F18 (hF 18 (hL 18 (by kernel_rfl))))
              have e94 : ρ (.tmp 94) = .int .i64 ((da : Int) + 1) := (hs 94 22 (by kernel_rfl)).trans (of_nth F22 (hF 22 (hL 22 (by kernel_rfl))))
              clear hs hs0 hglb hfun hL hC hN hF hU hap
              go_simp
              exact hK.out _ _ rq (Below.refl _ _) hI (to_nth F23 rfl)
            · -- 24: slot 96, pick
              refine OpOk.plain (by kernel_rfl) rfl ?_
              intro ρ uq Lq wq rq kq hs hs0 hcst hglb hfun hL hC hN hF hU hap hI K hK
              have e87 : ρ (.tmp 87) = .bool true := (hs 87 15 (by kernel_rfl)).trans (of_nth F15 (hF 15 (hL 15 (by kernel_rfl))))
              have e95 : ρ (.tmp 95) = .bool true := (hs 95 23 (by kernel_rfl)).trans (of_nth F23 (hF 23 (hL 23 (by kernel_rfl))))
              clear hs hs0 hglb hfun hL hC hN hF hU hap
              go_simp
              exact hK.out _ _ rq (Below.refl _ _) hI (to_nth F24 rfl)
            · -- 25: slot 97, move
              refine OpOk.plain (by kernel_rfl) rfl ?_
              intro ρ uq Lq wq rq kq hs hs0 hcst hglb hfun hL hC hN hF hU hap hI K hK
              have e96 : ρ (.tmp 96) = .bool true := (hs 96 24 (by kernel_rfl)).trans (of_nth F24 (hF 24 (hL 24 (by kernel_rfl))))
              exact opWp_move (.tmp 96) rfl e96 (hK.out _ _ rq (Below.refl _ _) hI (to_nth F25 rfl))
            · -- 26: slot 98, load
              refine OpOk.guard (by kernel_rfl) rfl (by kernel_rfl) ?_
              intro ρ uq Lq wq rq kq hs hs0 hcst hglb hfun hL hC hN hF hU hap hI K hK
              refine ⟨true, of_nth F25 (hF 25 (hL 25 (by kernel_rfl))), fun _ => ?_, fun h => absurd rfl h⟩
              have e9 : ρ (.tmp 9) = .pointer (some ⟨pb, 0, none⟩) := hs0 9 (by kernel_rfl)
              clear hs hs0 hglb hfun hL hC hN hF hU hap
              obtain ⟨z0, z1, z2, z3, z4⟩ := five_cells hI.1.kp
              have lz := lt_of_block hI.1.kp
              go_simp
              exact hK.out _ _ rq (Below.refl _ _) hI (to_nth F26 rfl)
            · -- 27: slot 99, load
              refine OpOk.guard (by kernel_rfl) rfl (by kernel_rfl) ?_
              intro ρ uq Lq wq rq kq hs hs0 hcst hglb hfun hL hC hN hF hU hap hI K hK
              refine ⟨true, of_nth F25 (hF 25 (hL 25 (by kernel_rfl))), fun _ => ?_, fun h => absurd rfl h⟩
              have e2 : ρ (.tmp 2) = .pointer (some ⟨L, 0, none⟩) := hs0 2 (by kernel_rfl)
              clear hs hs0 hglb hfun hL hC hN hF hU hap
              obtain ⟨⟨x0, x1, x2, x3, x4⟩, ⟨y0, y1, y2, y3, y4⟩, l1, l2⟩ := ten_cells hI.1.two hL
              go_simp
              exact hK.out _ _ rq (Below.refl _ _) hI (to_nth F27 rfl)
            · -- 28: slot 100, call
              refine OpOk.guard (by kernel_rfl) rfl (by kernel_rfl) ?_
              intro ρ uq Lq wq rq kq hs hs0 hcst hglb hfun hL hC hN hF hU hap hI K hK
              refine ⟨true, of_nth F25 (hF 25 (hL 25 (by kernel_rfl))), fun _ => ?_, fun h => absurd rfl h⟩
              have e98 : ρ (.tmp 98) = .agg #[.int .i64 5, .string ⟨#[]⟩, .slice none 0 0, .slice none 0 0, .slice (some ⟨pa, 0, none⟩) 1 1] := (hs 98 26 (by kernel_rfl)).trans (of_nth F26 (hF 26 (hL 26 (by kernel_rfl))))
              have e99 : ρ (.tmp 99) = .agg #[.int .i64 a.kind, .string ⟨a.name.toArray⟩, .slice A1 a.names.length c1, .slice A2 a.embeds.length c2, .slice A3 a.parts.length c3] := (hs 99 27 (by kernel_rfl)).trans (of_nth F27 (hF 27 (hL 27 (by kernel_rfl))))
              clear hs hs0 hglb hL hC hN hF hU hap
              refine opWp_call (args := #[.agg #[.int .i64 5, .string ⟨#[]⟩, .slice none 0 0, .slice none 0 0, .slice (some ⟨pa, 0, none⟩) 1 1], .agg #[.int .i64 a.kind, .string ⟨a.name.toArray⟩, .slice A1 a.names.length c1, .slice A2 a.embeds.length c2, .slice A3 a.parts.length c3]]) rfl Tryz.func45 (by kernel_rfl) rfl (hfun _) (by simp only [List.map_toArray, List.map_cons, List.map_nil, hcst, e98, e99]) ?_
              clear hfun hcst e98 e99
              refine (HSM.out wq _ _ hI.1.ty (IsTy.below hI.1.two.lw.b _ _ HTA.out)).mono ?_
              rintro e w5 ⟨rfl, hb5⟩
              exact ⟨_, rfl, hK.out _ _ rq hb5 (HGO.out _ _ hI hb5) (to_nth F28 (rfl))⟩
            · -- 29: slot 101, unOp
              refine OpOk.guard (by kernel_rfl) rfl (by kernel_rfl) ?_
              intro ρ uq Lq wq rq kq hs hs0 hcst hglb hfun hL hC hN hF hU hap hI K hK
              refine ⟨true, of_nth F25 (hF 25 (hL 25 (by kernel_rfl))), fun _ => ?_, fun h => absurd rfl h⟩
              have e100 : ρ (.tmp 100) = .bool false := (hs 100 28 (by kernel_rfl)).trans (of_nth F28 (hF 28 (hL 28 (by kernel_rfl))))
              clear hs hs0 hglb hfun hL hC hN hF hU hap
              go_simp
              exact hK.out _ _ rq (Below.refl _ _) hI (to_nth F29 rfl)
            · -- 30: slot 102, pick
              refine OpOk.plain (by kernel_rfl) rfl ?_
              intro ρ uq Lq wq rq kq hs hs0 hcst hglb hfun hL hC hN hF hU hap hI K hK
              have e97 : ρ (.tmp 97) = .bool true := (hs 97 25 (by kernel_rfl)).trans (of_nth F25 (hF 25 (hL 25 (by kernel_rfl))))
              have e101 : ρ (.tmp 101) = .bool true := (hs 101 29 (by kernel_rfl)).trans (of_nth F29 (hF 29 (hL 29 (by kernel_rfl))))
              clear hs hs0 hglb hfun hL hC hN hF hU hap
              go_simp
              exact hK.out _ _ rq (Below.refl _ _) hI (to_nth F30 rfl)
            · -- 31: slot 103, move
              refine OpOk.plain (by kernel_rfl) rfl ?_
              intro ρ uq Lq wq rq kq hs hs0 hcst hglb hfun hL hC hN hF hU hap hI K hK
              have e102 : ρ (.tmp 102) = .bool true := (hs 102 30 (by kernel_rfl)).trans (of_nth F30 (hF 30 (hL 30 (by kernel_rfl))))
              exact opWp_move (.tmp 102) rfl e102 (hK.out _ _ rq (Below.refl _ _) hI (to_nth F31 rfl))
            · -- 32: slot 104, load
              refine OpOk.guard (by kernel_rfl) rfl (by kernel_rfl) ?_
              intro ρ uq Lq wq rq kq hs hs0 hcst hglb hfun hL hC hN hF hU hap hI K hK
              refine ⟨true, of_nth F31 (hF 31 (hL 31 (by kernel_rfl))), fun _ => ?_, fun h => absurd rfl h⟩
              have e2 : ρ (.tmp 2) = .pointer (some ⟨L, 0, none⟩) := hs0 2 (by kernel_rfl)
              clear hs hs0 hglb hfun hL hC hN hF hU hap
              obtain ⟨⟨x0, x1, x2, x3, x4⟩, ⟨y0, y1, y2, y3, y4⟩, l1, l2⟩ := ten_cells hI.1.two hL
              go_simp
              exact hK.out _ _ rq (Below.refl _ _) hI (to_nth F32 rfl)
            · -- 33: slot 105, load
              refine OpOk.guard (by kernel_rfl) rfl (by kernel_rfl) ?_
              intro ρ uq Lq wq rq kq hs hs0 hcst hglb hfun hL hC hN hF hU hap hI K hK
              refine ⟨true, of_nth F31 (hF 31 (hL 31 (by kernel_rfl))), fun _ => ?_, fun h => absurd rfl h⟩
              have e3 : ρ (.tmp 3) = .pointer (some ⟨L + 1, 0, none⟩) := hs0 3 (by kernel_rfl)
              clear hs hs0 hglb hfun hL hC hN hF hU hap
              obtain ⟨⟨x0, x1, x2, x3, x4⟩, ⟨y0, y1, y2, y3, y4⟩, l1, l2⟩ := ten_cells hI.1.two hL
              go_simp
              exact hK.out _ _ rq (Below.refl _ _) hI (to_nth F33 rfl)
            · -- 34: slot 106, buildSlice
              refine OpOk.guard (by kernel_rfl) rfl (by kernel_rfl) ?_
              intro ρ uq Lq wq rq kq hs hs0 hcst hglb hfun hL hC hN hF hU hap hI K hK
              refine ⟨true, of_nth F31 (hF 31 (hL 31 (by kernel_rfl))), fun _ => ?_, fun h => absurd rfl h⟩
              have e104 : ρ (.tmp 104) = .agg #[.int .i64 a.kind, .string ⟨a.name.toArray⟩, .slice A1 a.names.length c1, .slice A2 a.embeds.length c2, .slice A3 a.parts.length c3] := (hs 104 32 (by kernel_rfl)).trans (of_nth F32 (hF 32 (hL 32 (by kernel_rfl))))
              have e105 : ρ (.tmp 105) = .agg #[.int .i64 b.kind, .string ⟨b.name.toArray⟩, .slice B1 b.names.length d1, .slice B2 b.embeds.length d2, .slice B3 b.parts.length d3] := (hs 105 33 (by kernel_rfl)).trans (of_nth F33 (hF 33 (hL 33 (by kernel_rfl))))
              clear hs hs0 hglb hfun hL hC hN hF hU hap
              go_simp
              exact hK.out _ _ rq ((Below.refl _ _).alloc (Nat.le_refl _) _) (HGO.out _ _ hI ((Below.refl _ _).alloc (Nat.le_refl _) _)) (to_nth F34 (TyRow.new2 (IsTy.below hI.1.two.lw.b _ _ HTA.out) (IsTy.below hI.1.two.lw.b _ _ HTB.out)))
            · -- 35: slot 107, call
              refine OpOk.guard (by kernel_rfl) rfl (by kernel_rfl) ?_
              intro ρ uq Lq wq rq kq hs hs0 hcst hglb hfun hL hC hN hF hU hap hI K hK
              refine ⟨true, of_nth F31 (hF 31 (hL 31 (by kernel_rfl))), fun _ => ?_, fun h => absurd rfl h⟩
              have e106 : ρ (.tmp 106) = uq 34 := hs 106 34 (by kernel_rfl)
              have p106 := of_nth F34 (hF 34 (hL 34 (by kernel_rfl)))
              obtain ⟨q106, hq106⟩ : ∃ q, uq 34 = q := ⟨_, rfl⟩
              rw [hq106] at e106 p106
              clear hs hs0 hglb hL hC hN hF hU hap
              refine opWp_call (args := #[q106]) rfl Tryz.func15 (by kernel_rfl) rfl (hfun _) (by simp only [List.map_toArray, List.map_cons, List.map_nil, hcst, e106]) ?_
              clear hfun hcst e106
              refine (HND3.out wq _ p106).mono ?_
              rintro e w5 ⟨rfl, hb5⟩
              exact ⟨_, rfl, hK.out _ _ rq hb5 (HGO.out _ _ hI hb5) (to_nth F35 (rfl))⟩
            · -- 36: slot 108, load
              refine OpOk.guard (by kernel_rfl) rfl (by kernel_rfl) ?_
              intro ρ uq Lq wq rq kq hs hs0 hcst hglb hfun hL hC hN hF hU hap hI K hK
              refine ⟨true, of_nth F31 (hF 31 (hL 31 (by kernel_rfl))), fun _ => ?_, fun h => absurd rfl h⟩
              have e3 : ρ (.tmp 3) = .pointer (some ⟨L + 1, 0, none⟩) := hs0 3 (by kernel_rfl)
              clear hs hs0 hglb hfun hL hC hN hF hU hap
              obtain ⟨⟨x0, x1, x2, x3, x4⟩, ⟨y0, y1, y2, y3, y4⟩, l1, l2⟩ := ten_cells hI.1.two hL
              go_simp
              exact hK.out _ _ rq (Below.refl _ _) hI (to_nth F36 rfl)
            · -- 37: slot 109, load
              refine OpOk.guard (by kernel_rfl) rfl (by kernel_rfl) ?_
              intro ρ uq Lq wq rq kq hs hs0 hcst hglb hfun hL hC hN hF hU hap hI K hK
              refine ⟨true, of_nth F31 (hF 31 (hL 31 (by kernel_rfl))), fun _ => ?_, fun h => absurd rfl h⟩
              have e2 : ρ (.tmp 2) = .pointer (some ⟨L, 0, none⟩) := hs0 2 (by kernel_rfl)
              clear hs hs0 hglb hfun hL hC hN hF hU hap
              obtain ⟨⟨x0, x1, x2, x3, x4⟩, ⟨y0, y1, y2, y3, y4⟩, l1, l2⟩ := ten_cells hI.1.two hL
              go_simp
              exact hK.out _ _ rq (Below.refl _ _) hI (to_nth F37 rfl)
            · -- 38: slot 110, buildSlice
              refine OpOk.guard (by kernel_rfl) rfl (by kernel_rfl) ?_
              intro ρ uq Lq wq rq kq hs hs0 hcst hglb hfun hL hC hN hF hU hap hI K hK
              refine ⟨true, of_nth F31 (hF 31 (hL 31 (by kernel_rfl))), fun _ => ?_, fun h => absurd rfl h⟩
              have e108 : ρ (.tmp 108) = .agg #[.int .i64 b.kind, .string ⟨b.name.toArray⟩, .slice B1 b.names.length d1, .slice B2 b.embeds.length d2, .slice B3 b.parts.length d3] := (hs 108 36 (by kernel_rfl)).trans (of_nth F36 (hF 36 (hL 36 (by kernel_rfl))))
              have e109 : ρ (.tmp 109) = .agg #[.int .i64 a.kind, .string ⟨a.name.toArray⟩, .slice A1 a.names.length c1, .slice A2 a.embeds.length c2, .slice A3 a.parts.length c3] := (hs 109 37 (by kernel_rfl)).trans (of_nth F37 (hF 37 (hL 37 (by kernel_rfl))))
              clear hs hs0 hglb hfun hL hC hN hF hU hap
              go_simp
              exact hK.out _ _ rq ((Below.refl _ _).alloc (Nat.le_refl _) _) (HGO.out _ _ hI ((Below.refl _ _).alloc (Nat.le_refl _) _)) (to_nth F38 (TyRow.new2 (IsTy.below hI.1.two.lw.b _ _ HTB.out) (IsTy.below hI.1.two.lw.b _ _ HTA.out)))
            · -- 39: slot 111, call
              refine OpOk.guard (by kernel_rfl) rfl (by kernel_rfl) ?_
              intro ρ uq Lq wq rq kq hs hs0 hcst hglb hfun hL hC hN hF hU hap hI K hK
              refine ⟨true, of_nth F31 (hF 31 (hL 31 (by kernel_rfl))), fun _ => ?_, fun h => absurd rfl h⟩
              have e110 : ρ (.tmp 110) = uq 38 := hs 110 38 (by kernel_rfl)
              have p110 := of_nth F38 (hF 38 (hL 38 (by kernel_rfl)))
              obtain ⟨q110, hq110⟩ : ∃ q, uq 38 = q := ⟨_, rfl⟩
              rw [hq110] at e110 p110
              clear hs hs0 hglb hL hC hN hF hU hap
              refine opWp_call (args := #[q110]) rfl Tryz.func15 (by kernel_rfl) rfl (hfun _) (by simp only [List.map_toArray, List.map_cons, List.map_nil, hcst, e110]) ?_
              clear hfun hcst e110
              refine (HND4.out wq _ p110).mono ?_
              rintro e w5 ⟨rfl, hb5⟩
              exact ⟨_, rfl, hK.out _ _ rq hb5 (HGO.out _ _ hI hb5) (to_nth F39 (rfl))⟩
            · -- 40: slot 112, binOp
              refine OpOk.guard (by kernel_rfl) rfl (by kernel_rfl) ?_
              intro ρ uq Lq wq rq kq hs hs0 hcst hglb hfun hL hC hN hF hU hap hI K hK
              refine ⟨true, of_nth F31 (hF 31 (hL 31 (by kernel_rfl))), fun _ => ?_, fun h => absurd rfl h⟩
              have e107 : ρ (.tmp 107) = .int .i64 ((na + nb : Nat) : Int) := (hs 107 35 (by kernel_rfl)).trans (of_nth F35 (hF 35 (hL 35 (by kernel_rfl))))
              have e111 : ρ (.tmp 111) = .int .i64 ((na + nb : Nat) : Int) := (hs 111 39 (by kernel_rfl)).trans (of_nth F39 (hF 39 (hL 39 (by kernel_rfl))))
              clear hs hs0 hglb hfun hL hC hN hF hU hap
              go_simp
              exact hK.out _ _ rq (Below.refl _ _) hI (to_nth F40 rfl)
            · -- 41: slot 113, pick
              refine OpOk.plain (by kernel_rfl) rfl ?_
              intro ρ uq Lq wq rq kq hs hs0 hcst hglb hfun hL hC hN hF hU hap hI K hK
              have e103 : ρ (.tmp 103) = .bool true := (hs 103 31 (by kernel_rfl)).trans (of_nth F31 (hF 31 (hL 31 (by kernel_rfl))))
              have e112 : ρ (.tmp 112) = .bool true := (hs 112 40 (by kernel_rfl)).trans (of_nth F40 (hF 40 (hL 40 (by kernel_rfl))))
              clear hs hs0 hglb hfun hL hC hN hF hU hap
              go_simp
              exact hK.out _ _ rq (Below.refl _ _) hI (to_nth F41 rfl)
            · -- 42: slot 114, move
              refine OpOk.plain (by kernel_rfl) rfl ?_
              intro ρ uq Lq wq rq kq hs hs0 hcst hglb hfun hL hC hN hF hU hap hI K hK
              have e113 : ρ (.tmp 113) = .bool true := (hs 113 41 (by kernel_rfl)).trans (of_nth F41 (hF 41 (hL 41 (by kernel_rfl))))
              exact opWp_move (.tmp 113) rfl e113 (hK.out _ _ rq (Below.refl _ _) hI (to_nth F42 rfl))
            · -- 43: slot 115, call
              refine OpOk.guard (by kernel_rfl) rfl (by kernel_rfl) ?_
              intro ρ uq Lq wq rq kq hs hs0 hcst hglb hfun hL hC hN hF hU hap hI K hK
              refine ⟨true, of_nth F42 (hF 42 (hL 42 (by kernel_rfl))), fun _ => ?_, fun h => absurd rfl h⟩
              clear hs hs0 hglb hL hC hN hF hU hap
              refine opWp_call (args := #[.slice none 0 0]) rfl Tryz.func15 (by kernel_rfl) rfl (hfun _) (by simp only [List.map_toArray, List.map_cons, List.map_nil, hcst]) ?_
              clear hfun hcst 
              refine (HND5.out wq).mono ?_
              rintro e w5 ⟨rfl, hb5⟩
              exact ⟨_, rfl, hK.out _ _ rq hb5 (HGO.out _ _ hI hb5) (to_nth F43 (rfl))⟩
            · -- 44: slot 116, binOp
              refine OpOk.guard (by kernel_rfl) rfl (by kernel_rfl) ?_
              intro ρ uq Lq wq rq kq hs hs0 hcst hglb hfun hL hC hN hF hU hap hI K hK
              refine ⟨true, of_nth F42 (hF 42 (hL 42 (by kernel_rfl))), fun _ => ?_, fun h => absurd rfl h⟩
              have e115 : ρ (.tmp 115) = .int .i64 0 := (hs 115 43 (by kernel_rfl)).trans (of_nth F43 (hF 43 (hL 43 (by kernel_rfl))))
              clear hs hs0 hglb hfun hL hC hN hF hU hap
              go_simp
              exact hK.out _ _ rq (Below.refl _ _) hI (to_nth F44 rfl)
            · -- 45: slot 117, pick
              refine OpOk.plain (by kernel_rfl) rfl ?_
              intro ρ uq Lq wq rq kq hs hs0 hcst hglb hfun hL hC hN hF hU hap hI K hK
              have e114 : ρ (.tmp 114) = .bool true := (hs 114 42 (by kernel_rfl)).trans (of_nth F42 (hF 42 (hL 42 (by kernel_rfl))))
              have e116 : ρ (.tmp 116) = .bool true := (hs 116 44 (by kernel_rfl)).trans (of_nth F44 (hF 44 (hL 44 (by kernel_rfl))))
              clear hs hs0 hglb hfun hL hC hN hF hU hap
              go_simp
              exact hK.out _ _ rq (Below.refl _ _) hI (to_nth F45 rfl)
            · -- 46: slot 118, move
              refine OpOk.plain (by kernel_rfl) rfl ?_
              intro ρ uq Lq wq rq kq hs hs0 hcst hglb hfun hL hC hN hF hU hap hI K hK
              have e117 : ρ (.tmp 117) = .bool true := (hs 117 45 (by kernel_rfl)).trans (of_nth F45 (hF 45 (hL 45 (by kernel_rfl))))
              exact opWp_move (.tmp 117) rfl e117 (hK.out _ _ rq (Below.refl _ _) hI (to_nth F46 rfl))
            · -- 47: slot 119, call
              refine OpOk.guard (by kernel_rfl) rfl (by kernel_rfl) ?_
              intro ρ uq Lq wq rq kq hs hs0 hcst hglb hfun hL hC hN hF hU hap hI K hK
              refine ⟨true, of_nth F46 (hF 46 (hL 46 (by kernel_rfl))), fun _ => ?_, fun h => absurd rfl h⟩
              clear hs hs0 hglb hL hC hN hF hU hap
              refine opWp_call (args := #[]) rfl Tryz.func3 (by kernel_rfl) rfl (hfun _) (by simp only [List.map_toArray, List.map_cons, List.map_nil, hcst]) ?_
              clear hfun hcst 
              refine (HRU.out wq hI).mono ?_
              rintro e w5 ⟨rfl, hb5⟩
              exact ⟨_, rfl, hK.out _ _ rq hb5 (HGO.out _ _ hI hb5) (to_nth F47 (rfl))⟩
            · -- 48: slot 120, pick
              refine OpOk.plain (by kernel_rfl) rfl ?_
              intro ρ uq Lq wq rq kq hs hs0 hcst hglb hfun hL hC hN hF hU hap hI K hK
              have e118 : ρ (.tmp 118) = .bool true := (hs 118 46 (by kernel_rfl)).trans (of_nth F46 (hF 46 (hL 46 (by kernel_rfl))))
              have e119 : ρ (.tmp 119) = .bool true := (hs 119 47 (by kernel_rfl)).trans (of_nth F47 (hF 47 (hL 47 (by kernel_rfl))))
              clear hs hs0 hglb hfun hL hC hN hF hU hap
              go_simp
              exact hK.out _ _ rq (Below.refl _ _) hI (to_nth F48 rfl)
            · -- 49: slot 4, assign
              refine OpOk.plain (by kernel_rfl) rfl ?_
              intro ρ uq Lq wq rq kq hs hs0 hcst hglb hfun hL hC hN hF hU hap hI K hK
              have e120 : ρ (.tmp 120) = .bool true := (hs 120 48 (by kernel_rfl)).trans (of_nth F48 (hF 48 (hL 48 (by kernel_rfl))))
              exact opWp_assign (.tmp 120) rfl e120 (hK.out _ _ rq (Below.refl _ _) hI (to_nth F49 rfl))
          · intro uq wq rq hI hF
            have f49 : uq 49 = .bool true := of_nth F49 (hF 49 (by decide))
            have hSz := hI
            simp only [List.toList_toArray, fillAct, Act.put, List.setIfInBounds_toArray, List.set_cons_zero, List.set_cons_succ, f49]
            clear hI hF F0 F1 F2 F3 F4 F5 F6 F7 F8 F9 F10 F11 F12 F13 F14 F15 F16 F17 F18 F19 F20 F21 F22 F23 F24 F25 F26 F27 F28 F29 F30 F31 F32 F33 F34 F35 F36 F37 F38 F39 F40 F41 F42 F43 F44 F45 F46 F47 F48 F49 hstay
            have HSZ := Lib.hid hSz
            clear hSz
            go_wp2_with fail
            go_ret
            exact ⟨rfl, HSZ.out.1.two.lw⟩

    · have gb : (3000 : Int) ≤ (q : Int) := by omega
      have gb2 : decide ((3000 : Int) ≤ (q : Int)) = true := by rw [decide_eq_true_iff]; omega
      go_wp2_with (go_at_call 3; refine (HRUN.out w4 H4.out.lw).mono ?_; rintro e w5 ⟨rfl, hw5⟩)
      go_ret
      exact ⟨rfl, hw5⟩
  · have ga : (3000 : Int) ≤ (r : Int) := by omega
    have ga2 : decide ((3000 : Int) ≤ (r : Int)) = true := by rw [decide_eq_true_iff]; omega
    go_wp2_with (go_at_call 3; refine (HRUN.out w3 H3.out.lw).mono ?_; rintro e w5 ⟨rfl, hw5⟩)
    go_ret
    exact ⟨rfl, hw5⟩

end Go.Proofs.YtdncljdfmdgdaaaGreatDoor

namespace Go.Proofs.YtdncljdfmdgdaaaGreatDoor
open Go.RowKit Go.Shelf
set_option linter.unusedSimpArgs false
set_option linter.unusedVariables false

theorem size3 (w : World) (a b c : Obj) : (((w.alloc a).alloc b).alloc c).heap.size = w.heap.size + 1 + 1 + 1 := by simp
set_option maxRecDepth 100000 in
set_option maxHeartbeats 4000000 in
theorem lawTwo (k : Int) (x y : Sx.Ex) (v u : Value) (w : World) (hv : IsEx w v x) (hu : IsEx w u y) :
    Calls Tryz.prog 21 #[.int .i64 k, v, u] w fun e w' => ∃ g, e = .returned (.agg #[.int .i64 0, .int .i64 k, .int .i64 0, .string ⟨#[]⟩, .slice none 0 0, .slice none 0 0, .slice (some ⟨g, 0, none⟩) 2 2]) ∧ ExRow w' (.slice (some ⟨g, 0, none⟩) 2 2) [x, y] ∧ Below w.heap.size w w' := by
  obtain ⟨At, ct, An, cn, Ap, cp, rfl, -⟩ := hv.agg
  obtain ⟨Bt, dt, Bn, dn, Bp, dp, rfl, -⟩ := hu.agg
  have HV := Lib.hid hv
  have HU := Lib.hid hu
  clear hv hu
  go_enter Tryz.func21, Tryz.ntmps21
  go_wp2
  refine bodyPost_ret (v := .agg #[.int .i64 0, .int .i64 k, .int .i64 0, .string ⟨#[]⟩, .slice none 0 0, .slice none 0 0, .slice (some ⟨_, 0, none⟩) 2 2]) (by simp [results, Tryz.results21, go_sem]; rfl) rfl ⟨_, rfl, ?_, ?_⟩
  · have hb : Below w.heap.size w (((w.alloc (.cells #[.int .i64 x.pos, .int .i64 x.kind, .int .i64 x.n, .string ⟨x.s.toArray⟩, .slice At x.t.length ct, .slice An x.names.length cn, .slice Ap x.parts.length cp] 39)).alloc
        (.cells #[.int .i64 y.pos, .int .i64 y.kind, .int .i64 y.n, .string ⟨y.s.toArray⟩, .slice Bt y.t.length dt, .slice Bn y.names.length dn, .slice Bp y.parts.length dp] 39)).alloc
        (.cells #[.int .i64 0, .int .i64 k, .int .i64 0, .string ⟨#[]⟩, .slice none 0 0, .slice none 0 0, .slice (some ⟨w.heap.size + 1 + 1 + 1, 0, none⟩) 2 2] 39)) :=
      (((Below.refl _ _).alloc (Nat.le_refl _) _).alloc (by simp) _).alloc (by simp; omega) _
    have h := ExRow.new2 (IsEx.below hb _ _ HV.out) (IsEx.below hb _ _ HU.out)
    rw [size3] at h
    exact h
  · exact ((((Below.refl _ _).alloc (Nat.le_refl _) _).alloc (by simp) _).alloc (by simp; omega) _).alloc (by simp; omega) _

set_option maxRecDepth 100000 in
set_option maxHeartbeats 4000000 in
theorem lawTold (x : Sx.Ex) (s : Lx.Bytes) (v : Value) (w : World) (hG : GS w) (hN : NG ≤ w.heap.size) (hv : IsEx w v x) (hz : Sx.sizeX x ≤ 1000000) (hlen : (Sx.expr SY x).length ≤ 900000000) (hs : Sx.said (Sx.rightX NM 64 x) (Sx.expr SY x) = (s, 0)) :
    Calls Tryz.prog 20 #[v, .string ⟨s.toArray⟩] w fun e w' => e = .returned (.bool true) ∧ Below w.heap.size w w' := by
  have hx := fun X (hX : Below w.heap.size w X) => synExpr x v X (hG.below hX) (Nat.le_trans hN hX.size) (IsEx.below hX _ _ hv) hz hlen
  rw [hs] at hx
  obtain ⟨At, ct, An, cn, Ap, cp, rfl, -⟩ := hv.agg
  obtain ⟨w2, hw2⟩ : ∃ w2, w.alloc (.cells #[.int .i64 x.pos, .int .i64 x.kind, .int .i64 x.n, .string ⟨x.s.toArray⟩, .slice At x.t.length ct, .slice An x.names.length cn, .slice Ap x.parts.length cp] 39) = w2 := ⟨_, rfl⟩
  have hb2 : Below w.heap.size w w2 := by rw [← hw2]; exact grown_below (World.grownBy_alloc w _ none)
  have hbox := heap_alloc_new w (.cells #[.int .i64 x.pos, .int .i64 x.kind, .int .i64 x.n, .string ⟨x.s.toArray⟩, .slice At x.t.length ct, .slice An x.names.length cn, .slice Ap x.parts.length cp] 39)
  rw [hw2] at hbox
  obtain ⟨x0, x1, x2, x3, x4, x5, x6⟩ := seven_cells hbox
  have hl := lt_of_block hbox
  have HX := Lib.hid (hx w2 hb2)
  have HB := Lib.hid hb2
  clear hx hb2 hbox hG hs hlen hz hv
  go_enter Tryz.func20, Tryz.ntmps20
  go_wp2_with (go_at_call 23; refine HX.out.mono ?_; rintro e w3 ⟨rfl, hb3⟩)
  go_ret
  exact ⟨by simp, HB.out.trans (hb3.mono HB.out.size)⟩

end Go.Proofs.YtdncljdfmdgdaaaGreatDoor

namespace Go.Proofs.YtdncljdfmdgdaaaGreatDoor
set_option linter.unusedVariables false
mutual
/-- coilkeep's size of statements, with no limit. -/
def Sx.sizeS : Sx.St → Nat
  | .mk _ _ nm t x b e => 1 + nm.length + Sx.sizeL t + Sx.sizeXs x + Sx.sizeSs b + Sx.sizeSs e
def Sx.sizeSs : List Sx.St → Nat
  | [] => 0
  | s :: l => Sx.sizeS s + Sx.sizeSs l
end
theorem Sx.sizeS_parts (s : Sx.St) : Sx.sizeS s = 1 + s.name.length + Sx.sizeL s.t + Sx.sizeXs s.x + Sx.sizeSs s.body + Sx.sizeSs s.els := by cases s; rw [Sx.sizeS]; rfl
theorem Sx.sizeS_pos (s : Sx.St) : 1 ≤ Sx.sizeS s := by rw [Sx.sizeS_parts]; omega
theorem Sx.sizeS_mem : ∀ {l : List Sx.St} {x : Sx.St}, x ∈ l → Sx.sizeS x ≤ Sx.sizeSs l
  | u :: l, t, h => by
    rw [Sx.sizeSs]
    rcases List.mem_cons.1 h with rfl | h
    · omega
    · have := Sx.sizeS_mem h; omega
theorem Sx.length_sizeSs : ∀ (l : List Sx.St), l.length ≤ Sx.sizeSs l
  | [] => by simp [Sx.sizeSs]
  | t :: l => by
    rw [Sx.sizeSs, List.length_cons]
    have := Sx.length_sizeSs l
    have := Sx.sizeS_pos t
    omega
end Go.Proofs.YtdncljdfmdgdaaaGreatDoor
