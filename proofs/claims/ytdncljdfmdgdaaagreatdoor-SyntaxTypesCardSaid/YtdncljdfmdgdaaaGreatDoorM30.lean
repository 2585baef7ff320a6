/-
  The walk of coillaw2.SyntaxTypes.
-/
/-
 The walk of coillaw2.SyntaxTypes.
 The walks of coillaw2's two, told.
-/
import Derived.Test.YtdncljdfmdgdaaaGreatDoorM22
import Derived.Test.YtdncljdfmdgdaaaGreatDoorM23
import Derived.Test.YtdncljdfmdgdaaaGreatDoorM29
namespace Go.Proofs.YtdncljdfmdgdaaaGreatDoor
open Go.RowKit Go.Shelf
set_option linter.unusedSimpArgs false
set_option linter.unusedVariables false
structure OneSt (w : World) (c0 : Array Value) (X : World) : Prop where
 lw : LW w X
 k0 : X.heap[w.heap.size]? = some (.cells c0 26 (0, 0))
theorem OneSt.go {w X X' : World} {c0 : Array Value} (h : OneSt w c0 X) (hb : Below X.heap.size X X') : OneSt w c0 X' := ⟨h.lw.go hb, (hb.block _ (zaZ h.k0)).trans h.k0⟩
theorem OneSt.first {w : World} (hG : GL w) (hN : NG ≤ w.heap.size) (c0 : Array Value) : OneSt w c0 (w.alloc (.cells c0 26)) := ⟨(LW.refl hG hN).alloc _, heap_alloc_new w _⟩
structure CopySt (w : World) (c0 : Array Value) (K : Nat) (c1 : Array Value) (a : Sx.Ty) (X : World) : Prop where
 one : OneSt w c0 X
 k1 : X.heap[K]? = some (.cells c1 26 (0, 0))
 ty : IsTy X (.agg c1) a
theorem CopySt.go {w X X' : World} {c0 c1 : Array Value} {K : Nat} {a : Sx.Ty} (h : CopySt w c0 K c1 a X) (hb : Below X.heap.size X X') : CopySt w c0 K c1 a X' := ⟨h.one.go hb, (hb.block _ (zaZ h.k1)).trans h.k1, IsTy.below hb _ _ h.ty⟩
set_option maxRecDepth 100000 in
set_option maxHeartbeats 16000000 in
theorem znlZ (hruns : RunsOk) (a : Sx.Ty) (v : Value) (w : World) (ha : TyArg w v a) (hG : GL w) (hN : NG ≤ w.heap.size) :
  Calls Tryz.prog 4 #[v] w fun e w' => e = .returned (.bool true) ∧ LW w w' := by
 obtain ⟨hta, hfa⟩ := ha
 obtain ⟨A1, c1, A2, c2, A3, c3, rfl, -⟩ := id hta.agg
 obtain ⟨L, hL⟩ : ∃ L, w.heap.size = L := ⟨_, rfl⟩
 have HRUN := Lib.hid (fun X (hX : LW w X) => hruns.at hX)
 have HSA := Lib.hid (fun X (hX : OneSt w (boxT a A1 c1 A2 c2 A3 c3) X) => (zlxZ _ a (Nat.le_refl _) hfa 20000 _ X (by omega) (by omega) (IsTy.below hX.lw.b _ _ hta)).mono fun e w' (h : SizeIs 20000 (Sx.size a) X e w') => (show ∃ r : Nat, e = .returned (.int .i64 (r : Nat)) ∧ (r < 20000 → r = Sx.size a) ∧ r ≤ 1000000000000000 ∧ OneSt w (boxT a A1 c1 A2 c2 A3 c3) w' by obtain ⟨r, h1, h2, h3, h4⟩ := h; exact ⟨r, h1, h3, by omega, hX.go h4⟩))
 have HTA := Lib.hid hta
 have HG := Lib.hid hG
 have HN := Lib.hid hN
 clear hfa hta
 go_enter Tryz.func4, Tryz.ntmps4
 obtain ⟨w2, hw2⟩ : ∃ w2, w.alloc (.cells #[.int .i64 a.kind, .string ⟨a.name.toArray⟩, .slice A1 a.names.length c1, .slice A2 a.embeds.length c2, .slice A3 a.parts.length c3] 26) = w2 := ⟨_, rfl⟩
 have H2 := Lib.hid (show OneSt w (boxT a A1 c1 A2 c2 A3 c3) w2 by rw [← hw2]; exact OneSt.first HG.out HN.out _)
 clear hG hN
 have key : ∀ X, OneSt w (boxT a A1 c1 A2 c2 A3 c3) X → L < X.heap.size ∧ (X.cell? ⟨L, 0, none⟩ = some (.int .i64 a.kind) ∧ X.cell? ⟨L, 1, none⟩ = some (.string ⟨a.name.toArray⟩) ∧ X.cell? ⟨L, 2, none⟩ = some (.slice A1 a.names.length c1) ∧ X.cell? ⟨L, 3, none⟩ = some (.slice A2 a.embeds.length c2) ∧ X.cell? ⟨L, 4, none⟩ = some (.slice A3 a.parts.length c3)) := by
  intro X hX
  have h := hX.k0
  rw [hL] at h
  exact ⟨zaZ h, zcZ h⟩
 have KEY := Lib.hid key
 clear key
 obtain ⟨l1, x0, x1, x2, x3, x4⟩ := KEY.out w2 H2.out
 go_wp2_with fail
 refine (HSA.out w2 H2.out).mono ?_
 rintro e w3 ⟨r, rfl, hr1, hr2, hst3⟩
 have H3 := Lib.hid hst3
 have r0 : (0 : Int) ≤ (r : Int) := by omega
 have r1 : (r : Int) ≤ 1000000000000000 := by omega
 clear hst3 hw2
 clear x0 x1 x2 x3 x4 l1
 obtain ⟨l1, x0, x1, x2, x3, x4⟩ := KEY.out w3 H3.out
 by_cases hra : r < 20000
 ·have HRA := Lib.hid (show Sx.size a < 20000 by have := hr1 hra; omega)
  have ga : ¬ (20000 : Int) ≤ (r : Int) := by omega
  have ga2 : decide ((20000 : Int) ≤ (r : Int)) = false := by rw [decide_eq_false_iff_not]; omega
  clear hr1 hr2 hra
  go_wp2_with fail
  refine (keepOwn 20000 a (by have := HRA.out; omega) (by omega) _ w3 (IsTy.below H3.out.lw.b _ _ HTA.out)).mono ?_
  rintro e w4 ⟨v', rfl, hown, hb4⟩
  have hty4 := IsTy.sub (zlrZ _ _) _ _ hown
  have H4 := Lib.hid (H3.out.go hb4)
  obtain ⟨a1, e1, a2, e2, a3, e3, rfl, -⟩ := id hty4.agg
  obtain ⟨K5, hK5⟩ : ∃ K, w4.heap.size = K := ⟨_, rfl⟩
  obtain ⟨w5, hw5⟩ : ∃ w5, w4.alloc (.cells #[.int .i64 a.kind, .string ⟨a.name.toArray⟩, .slice a1 a.names.length e1, .slice a2 a.embeds.length e2, .slice a3 a.parts.length e3] 26) = w5 := ⟨_, rfl⟩
  have H5 := Lib.hid (show CopySt w (boxT a A1 c1 A2 c2 A3 c3) K5 (boxT a a1 e1 a2 e2 a3 e3) a w5 by
   rw [← hw5, ← hK5]
   exact ⟨H4.out.go (zdZ (World.grownBy_alloc w4 _ none)), heap_alloc_new w4 _, IsTy.below (zdZ (World.grownBy_alloc w4 _ none)) _ _ hty4⟩)
  have HWL := Lib.hid hw5
  clear hw5 hown hb4 hty4 x0 x1 x2 x3 x4 l1 H2 H3 HSA
  obtain ⟨l1, x0, x1, x2, x3, x4⟩ := KEY.out w4 H4.out
  have KEX := Lib.hid (fun X (hX : CopySt w (boxT a A1 c1 A2 c2 A3 c3) K5 (boxT a a1 e1 a2 e2 a3 e3) a X) => And.intro (zaZ hX.k1) (zcZ hX.k1))
  have HRT := Lib.hid (fun X (hX : CopySt w (boxT a A1 c1 A2 c2 A3 c3) K5 (boxT a a1 e1 a2 e2 a3 e3) a X) => (zhrZ 64 (Nat.le_refl _) a _ X X (LW.refl hX.one.lw.g hX.one.lw.n) (IsTy.below hX.one.lw.b _ _ HTA.out) (by have := HRA.out; omega)).mono fun e w' h => (show e = .returned (.bool (Sx.rightT NM 64 a)) ∧ CopySt w (boxT a A1 c1 A2 c2 A3 c3) K5 (boxT a a1 e1 a2 e2 a3 e3) a w' from ⟨h.1, hX.go h.2.b⟩))
  have HTP := Lib.hid (fun X (hX : CopySt w (boxT a A1 c1 A2 c2 A3 c3) K5 (boxT a a1 e1 a2 e2 a3 e3) a X) (hr : Sx.rightT NM 64 a = true) => (zmyZ 20000 (by omega) a (by have := HRA.out; omega) ⟨64, hr⟩ _ X (IsTy.below hX.one.lw.b _ _ HTA.out)).mono fun e w' h => (show ∃ A9 e9, e = .returned (.slice A9 (Sx.typ a).length e9) ∧ StrRow w' (.slice A9 (Sx.typ a).length e9) (Sx.typ a) ∧ CopySt w (boxT a A1 c1 A2 c2 A3 c3) K5 (boxT a a1 e1 a2 e2 a3 e3) a w' from by
   obtain ⟨u, h1, h2, h3⟩ := h
   obtain ⟨A9, e9, rfl⟩ := h2.slice
   exact ⟨A9, e9, h1, h2.row, hX.go h3⟩))
  have HSY := Lib.hid (fun X (hX : CopySt w (boxT a A1 c1 A2 c2 A3 c3) K5 (boxT a a1 e1 a2 e2 a3 e3) a X) => (synType a _ X hX.one.lw.g.gs hX.one.lw.n hX.ty (by have := HRA.out; omega)).mono fun e w' h => (show e = .returned (.tuple #[.string ⟨(Sx.said (Sx.rightT NM 64 a) (Sx.typ a)).1.toArray⟩, .int .i64 ((Sx.said (Sx.rightT NM 64 a) (Sx.typ a)).2 : Nat)]) ∧ Below X.heap.size X w' ∧ CopySt w (boxT a A1 c1 A2 c2 A3 c3) K5 (boxT a a1 e1 a2 e2 a3 e3) a w' from ⟨h.1, h.2, hX.go h.2⟩))
  have HFI := Lib.hid (fun X (A9 : Option Addr) (n9 e9 : Nat) (hX : CopySt w (boxT a A1 c1 A2 c2 A3 c3) K5 (boxT a a1 e1 a2 e2 a3 e3) a X) (hr : Sx.rightT NM 64 a = true → StrRow X (.slice A9 n9 e9) (Sx.typ a)) => (lawFits (Sx.rightT NM 64 a) (Sx.typ a) A9 n9 e9 X (fun h => ⟨hr h, by have h1 := Sx.typ_len a; have := HRA.out; omega, Sx.lks_typ h, Sx.tks_typ h⟩)).mono fun e w' h => (show e = .returned (.bool true) ∧ CopySt w (boxT a A1 c1 A2 c2 A3 c3) K5 (boxT a a1 e1 a2 e2 a3 e3) a w' from ⟨h.1, hX.go h.2⟩))
  have HKT := Lib.hid (fun X (hX : CopySt w (boxT a A1 c1 A2 c2 A3 c3) K5 (boxT a a1 e1 a2 e2 a3 e3) a X) => (zebZ _ a (Nat.le_refl _) a _ _ X (by have := HRA.out; omega) (by have := HRA.out; omega) hX.ty (IsTy.below hX.one.lw.b _ _ HTA.out)).mono fun e w' h => (show e = .returned (.bool true) ∧ CopySt w (boxT a A1 c1 A2 c2 A3 c3) K5 (boxT a a1 e1 a2 e2 a3 e3) a w' from ⟨by rw [h.1, (Sx.eqT_iff a a).2 rfl], hX.go h.2⟩))
  have HRU := Lib.hid (fun X (hX : CopySt w (boxT a A1 c1 A2 c2 A3 c3) K5 (boxT a a1 e1 a2 e2 a3 e3) a X) => HRUN.out X hX.one.lw)
  have HSZ := Lib.hid (show True from trivial)
  obtain ⟨rt, hrt⟩ : ∃ q, Sx.rightT NM 64 a = q := ⟨_, rfl⟩
  obtain ⟨tb, htb⟩ : ∃ q, (⟨(Sx.said (Sx.rightT NM 64 a) (Sx.typ a)).1.toArray⟩ : ByteArray) = q := ⟨_, rfl⟩
  obtain ⟨tn, htn⟩ : ∃ q : Int, (((Sx.said (Sx.rightT NM 64 a) (Sx.typ a)).2 : Nat) : Int) = q := ⟨_, rfl⟩
  rw [htb, htn] at HSY HFI
  rw [hrt] at HRT HTP HFI
  clear hrt htb htn
  obtain ⟨tl, htl⟩ : ∃ q, Sx.typ a = q := ⟨_, rfl⟩
  rw [htl] at HTP HFI
  clear htl
  go_upto_region 4 with fail
  rw [HWL.out]
  clear HWL x0 x1 x2 x3 x4 l1
  obtain ⟨l1, x0, x1, x2, x3, x4⟩ := KEY.out w5 H5.out.one
  go_wp2_with fail
  refine (HRT.out w5 H5.out).mono ?_
  rintro e w6 ⟨rfl, hst6⟩
  have H6 := Lib.hid hst6
  clear hst6 x0 x1 x2 x3 x4 l1
  obtain ⟨l1, x0, x1, x2, x3, x4⟩ := KEY.out w6 H6.out.one
  obtain ⟨l2, y0, y1, y2, y3, y4⟩ := KEX.out w6 H6.out
  cases rt with
  | false =>
   go_wp2_with (first
    | (go_at_call 14; refine (HSY.out w6 H6.out).mono ?_; rintro e w8 ⟨rfl, hb8, hst8⟩; have HB8 := Lib.hid hb8; have H8 := Lib.hid hst8; clear hb8 hst8 x0 x1 x2 x3 x4 l1 l2 y0 y1 y2 y3 y4; obtain ⟨l1, x0, x1, x2, x3, x4⟩ := KEY.out w8 H8.out.one; obtain ⟨l2, y0, y1, y2, y3, y4⟩ := KEX.out w8 H8.out)
    | (go_at_call 29; refine (HFI.out w8 none 0 0 H8.out (fun h => by cases h)).mono ?_; rintro e w9 ⟨rfl, hst9⟩; have H9 := Lib.hid hst9; clear hst9 x0 x1 x2 x3 x4 l1 l2 y0 y1 y2 y3 y4; obtain ⟨l1, x0, x1, x2, x3, x4⟩ := KEY.out w9 H9.out.one; obtain ⟨l2, y0, y1, y2, y3, y4⟩ := KEX.out w9 H9.out)
    | (go_at_call 30; refine (HKT.out w9 H9.out).mono ?_; rintro e w10 ⟨rfl, hst10⟩; have H10 := Lib.hid hst10; clear hst10)
    | (go_at_call 3; refine (HRU.out w10 H10.out).mono ?_; rintro e w11 ⟨rfl, hw11⟩))
   go_ret
   exact ⟨rfl, hw11⟩
  | true =>
   go_wp2_with (first
    | (go_at_call 28; refine (HTP.out w6 H6.out (by simp)).mono ?_; rintro e w7 ⟨A9, e9, rfl, hrow, hst7⟩; have HROW := Lib.hid hrow; have H7 := Lib.hid hst7; clear hrow hst7 x0 x1 x2 x3 x4 l1 l2 y0 y1 y2 y3 y4; obtain ⟨l1, x0, x1, x2, x3, x4⟩ := KEY.out w7 H7.out.one; obtain ⟨l2, y0, y1, y2, y3, y4⟩ := KEX.out w7 H7.out)
    | (go_at_call 14; refine (HSY.out w7 H7.out).mono ?_; rintro e w8 ⟨rfl, hb8, hst8⟩; have HB8 := Lib.hid hb8; have H8 := Lib.hid hst8; clear hb8 hst8 x0 x1 x2 x3 x4 l1 l2 y0 y1 y2 y3 y4; obtain ⟨l1, x0, x1, x2, x3, x4⟩ := KEY.out w8 H8.out.one; obtain ⟨l2, y0, y1, y2, y3, y4⟩ := KEX.out w8 H8.out)
    | (go_at_call 29; refine (HFI.out w8 A9 tl.length e9 H8.out (by intros; exact HROW.out.below HB8.out)).mono ?_; rintro e w9 ⟨rfl, hst9⟩; have H9 := Lib.hid hst9; clear hst9 x0 x1 x2 x3 x4 l1 l2 y0 y1 y2 y3 y4; obtain ⟨l1, x0, x1, x2, x3, x4⟩ := KEY.out w9 H9.out.one; obtain ⟨l2, y0, y1, y2, y3, y4⟩ := KEX.out w9 H9.out)
    | (go_at_call 30; refine (HKT.out w9 H9.out).mono ?_; rintro e w10 ⟨rfl, hst10⟩; have H10 := Lib.hid hst10; clear hst10)
    | (go_at_call 3; refine (HRU.out w10 H10.out).mono ?_; rintro e w11 ⟨rfl, hw11⟩))
   go_ret
   exact ⟨rfl, hw11⟩
 ·have ga : (20000 : Int) ≤ (r : Int) := by omega
  have ga2 : decide ((20000 : Int) ≤ (r : Int)) = true := by rw [decide_eq_true_iff]; omega
  go_wp2_with (go_at_call 3; refine (HRUN.out w3 H3.out.lw).mono ?_; rintro e w5 ⟨rfl, hw5⟩)
  go_ret
  exact ⟨rfl, hw5⟩
end Go.Proofs.YtdncljdfmdgdaaaGreatDoor
namespace Go.Proofs.YtdncljdfmdgdaaaGreatDoor
open Go.RowKit Go.Shelf
set_option linter.unusedSimpArgs false
set_option linter.unusedVariables false
theorem size3 (w : World) (a b c : Obj) : (((w.alloc a).alloc b).alloc c).heap.size = w.heap.size + 1 + 1 + 1 := by simp
set_option maxRecDepth 100000 in
set_option maxHeartbeats 4000000 in
theorem lawTwo (k : Int) (x y : Sx.Ex) (v u : Value) (w : World) (hv : IsEx w v x) (hu : IsEx w u y) :
  Calls Tryz.prog 21 #[.int .i64 k, v, u] w fun e w' => ∃ g, e = .returned (.agg #[.int .i64 0, .int .i64 k, .int .i64 0, .string ⟨#[]⟩, .slice none 0 0, .slice none 0 0, .slice (some ⟨g, 0, none⟩) 2 2]) ∧ ExRow w' (.slice (some ⟨g, 0, none⟩) 2 2) [x, y] ∧ Below w.heap.size w w' := by
 obtain ⟨At, ct, An, cn, Ap, cp, rfl, -⟩ := hv.agg
 obtain ⟨Bt, dt, Bn, dn, Bp, dp, rfl, -⟩ := hu.agg
 have HV := Lib.hid hv
 have HU := Lib.hid hu
 clear hv hu
 go_enter Tryz.func21, Tryz.ntmps21
 go_wp2
 refine bodyPost_ret (v := .agg #[.int .i64 0, .int .i64 k, .int .i64 0, .string ⟨#[]⟩, .slice none 0 0, .slice none 0 0, .slice (some ⟨_, 0, none⟩) 2 2]) (by simp [results, Tryz.results21, go_sem]; rfl) rfl ⟨_, rfl, ?_, ?_⟩
 ·have hb : Below w.heap.size w (((w.alloc (.cells #[.int .i64 x.pos, .int .i64 x.kind, .int .i64 x.n, .string ⟨x.s.toArray⟩, .slice At x.t.length ct, .slice An x.names.length cn, .slice Ap x.parts.length cp] 39)).alloc
    (.cells #[.int .i64 y.pos, .int .i64 y.kind, .int .i64 y.n, .string ⟨y.s.toArray⟩, .slice Bt y.t.length dt, .slice Bn y.names.length dn, .slice Bp y.parts.length dp] 39)).alloc
    (.cells #[.int .i64 0, .int .i64 k, .int .i64 0, .string ⟨#[]⟩, .slice none 0 0, .slice none 0 0, .slice (some ⟨w.heap.size + 1 + 1 + 1, 0, none⟩) 2 2] 39)) :=
   (((Below.refl _ _).alloc (Nat.le_refl _) _).alloc (by simp) _).alloc (by simp; omega) _
  have h := ExRow.new2 (IsEx.below hb _ _ HV.out) (IsEx.below hb _ _ HU.out)
  rw [size3] at h
  exact h
 ·exact ((((Below.refl _ _).alloc (Nat.le_refl _) _).alloc (by simp) _).alloc (by simp; omega) _).alloc (by simp; omega) _
set_option maxRecDepth 100000 in
set_option maxHeartbeats 4000000 in
theorem lawTold (x : Sx.Ex) (s : Lx.Bytes) (v : Value) (w : World) (hG : GS w) (hN : NG ≤ w.heap.size) (hv : IsEx w v x) (hz : Sx.sizeX x ≤ 1000000) (hlen : (Sx.expr SY x).length ≤ 900000000) (hs : Sx.said (Sx.rightX NM 64 x) (Sx.expr SY x) = (s, 0)) :
  Calls Tryz.prog 20 #[v, .string ⟨s.toArray⟩] w fun e w' => e = .returned (.bool true) ∧ Below w.heap.size w w' := by
 have hx := fun X (hX : Below w.heap.size w X) => synExpr x v X (hG.below hX) (Nat.le_trans hN hX.size) (IsEx.below hX _ _ hv) hz hlen
 rw [hs] at hx
 obtain ⟨At, ct, An, cn, Ap, cp, rfl, -⟩ := hv.agg
 obtain ⟨w2, hw2⟩ : ∃ w2, w.alloc (.cells #[.int .i64 x.pos, .int .i64 x.kind, .int .i64 x.n, .string ⟨x.s.toArray⟩, .slice At x.t.length ct, .slice An x.names.length cn, .slice Ap x.parts.length cp] 39) = w2 := ⟨_, rfl⟩
 have hb2 : Below w.heap.size w w2 := by rw [← hw2]; exact zdZ (World.grownBy_alloc w _ none)
 have hbox := heap_alloc_new w (.cells #[.int .i64 x.pos, .int .i64 x.kind, .int .i64 x.n, .string ⟨x.s.toArray⟩, .slice At x.t.length ct, .slice An x.names.length cn, .slice Ap x.parts.length cp] 39)
 rw [hw2] at hbox
 obtain ⟨x0, x1, x2, x3, x4, x5, x6⟩ := zbZ hbox
 have hl := zaZ hbox
 have HX := Lib.hid (hx w2 hb2)
 have HB := Lib.hid hb2
 clear hx hb2 hbox hG hs hlen hz hv
 go_enter Tryz.func20, Tryz.ntmps20
 go_wp2_with (go_at_call 23; refine HX.out.mono ?_; rintro e w3 ⟨rfl, hb3⟩)
 go_ret
 exact ⟨by simp, HB.out.trans (hb3.mono HB.out.size)⟩
end Go.Proofs.YtdncljdfmdgdaaaGreatDoor
