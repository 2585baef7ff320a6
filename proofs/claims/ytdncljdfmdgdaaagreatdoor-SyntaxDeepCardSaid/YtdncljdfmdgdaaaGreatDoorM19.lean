/-
  The walk of syntax.Expr.
  Types and expressions made: rows newly laid; the walks of coillaw2's small helpers.
  The walks of coillaw2's two, told.
  Plain: a statement's size.
-/
import Derived.Test.YtdncljdfmdgdaaaGreatDoorM16
import Derived.Test.YtdncljdfmdgdaaaGreatDoorM18
import Derived.Test.YtdncljdfmdgdaaaGreatDoorM11
namespace Go.Proofs.YtdncljdfmdgdaaaGreatDoor
open Go.RowKit Go.Shelf Go.WideMaps
set_option linter.unusedSimpArgs false
set_option linter.unusedVariables false

set_option maxRecDepth 100000 in
set_option maxHeartbeats 4000000 in
theorem synExpr (t : Sx.Ex) (v : Value) (W : World) (hG : GS W) (hN : NG ≤ W.heap.size) (ht : IsEx W v t) (hsz : Sx.sizeX t ≤ 1000000) (hlen : (Sx.expr SY t).length ≤ 900000000) :
    Calls Tryz.prog 23 #[v] W fun e W' => e = .returned (.tuple #[.string ⟨(Sx.said (Sx.rightX NM 64 t) (Sx.expr SY t)).1.toArray⟩, .int .i64 ((Sx.said (Sx.rightX NM 64 t) (Sx.expr SY t)).2 : Nat)]) ∧ Below W.heap.size W W' := by
  have hrt : ∀ X, Below W.heap.size W X → Calls Tryz.prog 63 #[v, .int .i64 64] X fun e W' => e = .returned (.bool (Sx.rightX NM 64 t)) ∧ Below X.heap.size X W' := fun X hb => synRightXAll _ t (Nat.le_refl _) 64 (by omega) v X (hG.below hb) (Nat.le_trans hN hb.size) (IsEx.below hb t v ht) hsz
  have htyp := fun b w (hr : Sx.rightX NM 64 t = true) (h : Wrote W b 0 [] w) => synExprAll (b := b) hG hN _ t (Nat.le_refl _) v [] w ⟨64, hr⟩ ht hsz h (by simpa using hlen)
  obtain ⟨At, ct, An, cn, Ap, cp, rfl, -⟩ := ht.agg
  obtain ⟨L, hL⟩ : ∃ L, W.heap.size = L := ⟨_, rfl⟩
  obtain ⟨w2, hw2⟩ : ∃ w2, W.alloc (.cells #[.int .i64 t.pos, .int .i64 t.kind, .int .i64 t.n, .string ⟨t.s.toArray⟩, .slice At t.t.length ct, .slice An t.names.length cn, .slice Ap t.parts.length cp] 39) = w2 := ⟨_, rfl⟩
  have hbox : w2.heap[L]? = some (.cells #[.int .i64 t.pos, .int .i64 t.kind, .int .i64 t.n, .string ⟨t.s.toArray⟩, .slice At t.t.length ct, .slice An t.names.length cn, .slice Ap t.parts.length cp] 39 (0, 0)) := by rw [← hw2, ← hL]; exact heap_alloc_new W _
  have hb2 : Below W.heap.size W w2 := by rw [← hw2]; exact grown_below (World.grownBy_alloc W _ none)
  obtain ⟨K, hK⟩ : ∃ K, w2.heap.size = K := ⟨_, rfl⟩
  have hLK : L ≤ K ∧ L < K := by rw [← hK, ← hw2, ← hL]; simp
  obtain ⟨w3, hw3⟩ : ∃ w3, w2.alloc (.cells #[.pointer none, .slice none 0 0, .int .i64 0] 104) = w3 := ⟨_, rfl⟩
  have htree : w3.heap[K]? = some (.cells #[.pointer none, .slice none 0 0, .int .i64 0] 104 (0, 0)) := by rw [← hw3, ← hK]; exact heap_alloc_new w2 _
  have hg3 : Below w2.heap.size w2 w3 := by rw [← hw3]; exact grown_below (World.grownBy_alloc w2 _ none)
  have hb3 : Below W.heap.size W w3 := hb2.trans (hg3.mono hb2.size)
  have hbox3 := (hg3.block L (by omega)).trans hbox
  have hs3 : K < w3.heap.size := lt_of_block htree
  obtain ⟨x0, x1, x2, x3, x4, x5, x6⟩ := seven_cells hbox3
  have hl3 := lt_of_block hbox3
  have HFR := Lib.hid (show ∀ w4, Below w3.heap.size w3 w4 → Wrote W K 0 [] w4 ∧ K < w4.heap.size ∧ w4.heap[L]? = w3.heap[L]? from fun w4 hb4 =>
    ⟨Wrote.fresh (by omega) ((hb4.block K hs3).trans htree) (hb3.trans (hb4.mono hb3.size)), Nat.lt_of_lt_of_le hs3 hb4.size, hb4.block L hl3⟩)
  have HRT := Lib.hid (hrt w3 hb3)
  have HTYP := Lib.hid htyp
  have HTREE := Lib.hid htree
  have HBOX3 := Lib.hid hbox3
  have HB3 := Lib.hid hb3
  have HL := Lib.hid hL
  have HLK := Lib.hid hLK
  have HSZ := Lib.hid hsz
  have HLN := Lib.hid hlen
  clear hLK hrt htyp ht hlen hbox hb2 hg3 hb3 hbox3 htree hG hsz
  cases hr : Sx.rightX NM 64 t with
  | false =>
    rw [hr] at HRT
    have HR := Lib.hid hr
    clear hr
    go_enter Tryz.func23, Tryz.ntmps23
    go_wp2_with (first
      | (go_at_call 63; refine HRT.out.mono ?_; rintro e w4 ⟨rfl, hb4⟩; obtain ⟨hW, hl4, -⟩ := HFR.out w4 hb4; have hW4 := Lib.hid hW; clear hb4 hW)
      | (go_at_call 60; refine (toldEnd hW4.out (by omega) false (fun _ => rfl)).mono ?_; rintro e w5 ⟨rfl, hb5⟩))
    refine bodyPost_ret (results_tmp2 rfl _ _ _) rfl ?_
    exact ⟨rfl, hb5⟩
  | true =>
    rw [hr] at HRT
    have HR := Lib.hid hr
    clear hr
    go_enter Tryz.func23, Tryz.ntmps23
    go_wp2_with (first
      | (go_at_call 63; refine HRT.out.mono ?_; rintro e w4 ⟨rfl, hb4⟩; obtain ⟨hW, hl4, hbl4⟩ := HFR.out w4 hb4; have hW4 := Lib.hid hW; have hbox4 := hbl4.trans HBOX3.out; clear hb4 hW hbl4 x0 x1 x2 x3 x4 x5 x6; obtain ⟨x0, x1, x2, x3, x4, x5, x6⟩ := seven_cells hbox4; clear hbox4)
      | (go_at_call 64; refine (HTYP.out (K) w4 HR.out hW4.out).mono ?_; rintro e w5 ⟨rfl, h5, -⟩; have hl5 := h5.lt; have hW5 := Lib.hid h5; clear h5)
      | (go_at_call 60; refine (toldEnd hW5.out (by have := HLN.out; simp; omega) true (fun h => by cases h)).mono ?_; rintro e w6 ⟨rfl, hb6⟩))
    refine bodyPost_ret (results_tmp2 rfl _ _ _) rfl ?_
    exact ⟨rfl, hb6⟩

end Go.Proofs.YtdncljdfmdgdaaaGreatDoor

namespace Go.Proofs.YtdncljdfmdgdaaaGreatDoor
open Go.RowKit Go.Shelf
set_option linter.unusedSimpArgs false
set_option linter.unusedVariables false

theorem StrRow.nil (w : World) (A : Option Addr) (c : Nat) : StrRow w (.slice A 0 c) [] := ⟨A, c, rfl, fun i h => by simp at h⟩
theorem BoolRow.nil (w : World) (A : Option Addr) (c : Nat) : BoolRow w (.slice A 0 c) [] := ⟨A, c, rfl, fun i h => by simp at h⟩
theorem TyRow.nil (w : World) (A : Option Addr) (c : Nat) : TyRow w (.slice A 0 c) [] := ⟨A, c, rfl, Nat.zero_le _, by rw [IsTys]; trivial⟩
theorem ExRow.nil (w : World) (A : Option Addr) (c : Nat) : ExRow w (.slice A 0 c) [] := ⟨A, c, rfl, Nat.zero_le _, by rw [IsExs]; trivial⟩
theorem StRow.nil (w : World) (A : Option Addr) (c : Nat) : StRow w (.slice A 0 c) [] := ⟨A, c, rfl, Nat.zero_le _, by rw [IsSts]; trivial⟩
theorem StrRow.new (w : World) (l : List Lx.Bytes) : StrRow (w.alloc (.cells (strsV l).toArray 9)) (.slice (some ⟨w.heap.size, 0, none⟩) l.length l.length) l :=
  ⟨_, _, rfl, fun i h => ⟨_, 0, rfl, by rw [Nat.zero_add]; exact (Row.new w l).at h⟩⟩
theorem BoolRow.new (w : World) (l : List Bool) : BoolRow (w.alloc (.cells (l.map Value.bool).toArray 4)) (.slice (some ⟨w.heap.size, 0, none⟩) l.length l.length) l :=
  ⟨_, _, rfl, fun i h => ⟨_, 0, rfl, by rw [Nat.zero_add, cell_of (heap_alloc_new w _)]; simp [h]⟩⟩
theorem IsTy.made {w : World} {k : Int} {nm : Lx.Bytes} {vn ve vp : Value} {ns : List Lx.Bytes} {es : List Bool} {ps : List Sx.Ty} (h1 : StrRow w vn ns) (h2 : BoolRow w ve es) (h3 : TyRow w vp ps) :
    IsTy w (.agg #[.int .i64 k, .string ⟨nm.toArray⟩, vn, ve, vp]) (.mk k nm ns es ps) := by
  obtain ⟨A, c, rfl, hc, hl⟩ := h3
  rw [IsTy]
  exact ⟨vn, ve, A, c, rfl, h1, h2, hc, hl⟩
theorem TyRow.new1 {w : World} {v0 v1 v2 v3 v4 : Value} {t : Sx.Ty} (h : IsTy w (.agg #[v0, v1, v2, v3, v4]) t) :
    TyRow (w.alloc (.cells #[v0, v1, v2, v3, v4] 26)) (.slice (some ⟨w.heap.size, 0, none⟩) 1 1) [t] := by
  have hb := heap_alloc_new w (.cells #[v0, v1, v2, v3, v4] 26)
  refine ⟨_, 1, rfl, Nat.le_refl _, ?_⟩
  rw [IsTys, IsTys]
  exact ⟨⟨_, 0, v0, v1, v2, v3, v4, rfl, cell_of hb 0, cell_of hb 1, cell_of hb 2, cell_of hb 3, cell_of hb 4, IsTy.below (grown_below (World.grownBy_alloc w _ none)) _ _ h⟩, trivial⟩
theorem TyRow.new2 {w : World} {v0 v1 v2 v3 v4 u0 u1 u2 u3 u4 : Value} {t s : Sx.Ty} (h : IsTy w (.agg #[v0, v1, v2, v3, v4]) t) (h' : IsTy w (.agg #[u0, u1, u2, u3, u4]) s) :
    TyRow (w.alloc (.cells #[v0, v1, v2, v3, v4, u0, u1, u2, u3, u4] 26)) (.slice (some ⟨w.heap.size, 0, none⟩) 2 2) [t, s] := by
  have hb := heap_alloc_new w (.cells #[v0, v1, v2, v3, v4, u0, u1, u2, u3, u4] 26)
  refine ⟨_, 2, rfl, Nat.le_refl _, ?_⟩
  rw [IsTys, IsTys, IsTys]
  exact ⟨⟨_, 0, v0, v1, v2, v3, v4, rfl, cell_of hb 0, cell_of hb 1, cell_of hb 2, cell_of hb 3, cell_of hb 4, IsTy.below (grown_below (World.grownBy_alloc w _ none)) _ _ h⟩,
    ⟨_, 0, u0, u1, u2, u3, u4, rfl, cell_of hb 5, cell_of hb 6, cell_of hb 7, cell_of hb 8, cell_of hb 9, IsTy.below (grown_below (World.grownBy_alloc w _ none)) _ _ h'⟩, trivial⟩
theorem IsEx.made {w : World} {pos k n : Int} {s : Lx.Bytes} {vt vn vp : Value} {t : List Sx.Ty} {ns : List Lx.Bytes} {ps : List Sx.Ex} (h1 : TyRow w vt t) (h2 : StrRow w vn ns) (h3 : ExRow w vp ps) (hn0 : -9223372036854775808 ≤ n) (hn1 : n ≤ 9223372036854775807) :
    IsEx w (.agg #[.int .i64 pos, .int .i64 k, .int .i64 n, .string ⟨s.toArray⟩, vt, vn, vp]) (.mk pos k n s t ns ps) := by
  obtain ⟨A, c, rfl, hc, hl⟩ := h3
  rw [IsEx]
  exact ⟨vt, vn, A, c, rfl, h1, h2, hc, hl, hn0, hn1⟩
theorem ExRow.new1 {w : World} {v0 v1 v2 v3 v4 v5 v6 : Value} {t : Sx.Ex} (h : IsEx w (.agg #[v0, v1, v2, v3, v4, v5, v6]) t) :
    ExRow (w.alloc (.cells #[v0, v1, v2, v3, v4, v5, v6] 39)) (.slice (some ⟨w.heap.size, 0, none⟩) 1 1) [t] := by
  have hb := heap_alloc_new w (.cells #[v0, v1, v2, v3, v4, v5, v6] 39)
  refine ⟨_, 1, rfl, Nat.le_refl _, ?_⟩
  rw [IsExs, IsExs]
  exact ⟨⟨_, 0, v0, v1, v2, v3, v4, v5, v6, rfl, cell_of hb 0, cell_of hb 1, cell_of hb 2, cell_of hb 3, cell_of hb 4, cell_of hb 5, cell_of hb 6, IsEx.below (grown_below (World.grownBy_alloc w _ none)) _ _ h⟩, trivial⟩
theorem ExRow.new2 {w : World} {v0 v1 v2 v3 v4 v5 v6 u0 u1 u2 u3 u4 u5 u6 : Value} {t s : Sx.Ex} (h : IsEx w (.agg #[v0, v1, v2, v3, v4, v5, v6]) t) (h' : IsEx w (.agg #[u0, u1, u2, u3, u4, u5, u6]) s) :
    ExRow (w.alloc (.cells #[v0, v1, v2, v3, v4, v5, v6, u0, u1, u2, u3, u4, u5, u6] 39)) (.slice (some ⟨w.heap.size, 0, none⟩) 2 2) [t, s] := by
  have hb := heap_alloc_new w (.cells #[v0, v1, v2, v3, v4, v5, v6, u0, u1, u2, u3, u4, u5, u6] 39)
  refine ⟨_, 2, rfl, Nat.le_refl _, ?_⟩
  rw [IsExs, IsExs, IsExs]
  exact ⟨⟨_, 0, v0, v1, v2, v3, v4, v5, v6, rfl, cell_of hb 0, cell_of hb 1, cell_of hb 2, cell_of hb 3, cell_of hb 4, cell_of hb 5, cell_of hb 6, IsEx.below (grown_below (World.grownBy_alloc w _ none)) _ _ h⟩,
    ⟨_, 0, u0, u1, u2, u3, u4, u5, u6, rfl, cell_of hb 7, cell_of hb 8, cell_of hb 9, cell_of hb 10, cell_of hb 11, cell_of hb 12, cell_of hb 13, IsEx.below (grown_below (World.grownBy_alloc w _ none)) _ _ h'⟩, trivial⟩

set_option maxHeartbeats 2000000 in
theorem lawTy (k : Int) (A : Option Addr) (n c : Nat) (w : World) : Calls Tryz.prog 12 #[.int .i64 k, .slice A n c] w fun e w' => e = .returned (.agg #[.int .i64 k, .string ⟨#[]⟩, .slice none 0 0, .slice none 0 0, .slice A n c]) ∧ Below w.heap.size w w' := by
  go_enter Tryz.func12, Tryz.ntmps12
  go_wp2
  refine bodyPost_ret (v := .agg #[.int .i64 k, .string ⟨#[]⟩, .slice none 0 0, .slice none 0 0, .slice A n c]) (by simp [results, Tryz.results12, go_sem]) rfl ⟨rfl, ?_⟩
  exact (Below.refl _ _).alloc (Nat.le_refl _) _
set_option maxHeartbeats 2000000 in
theorem lawNamed (s : ByteArray) (w : World) : Calls Tryz.prog 13 #[.string s] w fun e w' => e = .returned (.agg #[.int .i64 4, .string s, .slice none 0 0, .slice none 0 0, .slice none 0 0]) ∧ Below w.heap.size w w' := by
  go_enter Tryz.func13, Tryz.ntmps13
  go_wp2
  refine bodyPost_ret (v := .agg #[.int .i64 4, .string s, .slice none 0 0, .slice none 0 0, .slice none 0 0]) (by simp [results, Tryz.results13, go_sem]) rfl ⟨rfl, ?_⟩
  exact (Below.refl _ _).alloc (Nat.le_refl _) _
set_option maxHeartbeats 2000000 in
theorem lawNum (n : Int) (w : World) : Calls Tryz.prog 22 #[.int .i64 n] w fun e w' => e = .returned (.agg #[.int .i64 0, .int .i64 1, .int .i64 n, .string ⟨#[]⟩, .slice none 0 0, .slice none 0 0, .slice none 0 0]) ∧ Below w.heap.size w w' := by
  go_enter Tryz.func22, Tryz.ntmps22
  go_wp2
  refine bodyPost_ret (v := .agg #[.int .i64 0, .int .i64 1, .int .i64 n, .string ⟨#[]⟩, .slice none 0 0, .slice none 0 0, .slice none 0 0]) (by simp [results, Tryz.results22, go_sem]) rfl ⟨rfl, ?_⟩
  exact (Below.refl _ _).alloc (Nat.le_refl _) _
set_option maxHeartbeats 2000000 in
theorem lawVariable (s : ByteArray) (w : World) : Calls Tryz.prog 19 #[.string s] w fun e w' => e = .returned (.agg #[.int .i64 0, .int .i64 4, .int .i64 0, .string s, .slice none 0 0, .slice none 0 0, .slice none 0 0]) ∧ Below w.heap.size w w' := by
  go_enter Tryz.func19, Tryz.ntmps19
  go_wp2
  refine bodyPost_ret (v := .agg #[.int .i64 0, .int .i64 4, .int .i64 0, .string s, .slice none 0 0, .slice none 0 0, .slice none 0 0]) (by simp [results, Tryz.results19, go_sem]) rfl ⟨rfl, ?_⟩
  exact (Below.refl _ _).alloc (Nat.le_refl _) _

end Go.Proofs.YtdncljdfmdgdaaaGreatDoor

namespace Go.Proofs.YtdncljdfmdgdaaaGreatDoor
open Go.RowKit Go.Shelf
set_option linter.unusedSimpArgs false
set_option linter.unusedVariables false

theorem size3 (w : World) (a b c : Obj) : (((w.alloc a).alloc b).alloc c).heap.size = w.heap.size + 1 + 1 + 1 := by simp
set_option maxRecDepth 100000 in
set_option maxHeartbeats 4000000 in
theorem lawTwo (k : Int) (x y : Sx.Ex) (v u : Value) (w : World) (hv : IsEx w v x) (hu : IsEx w u y) :
    Calls Tryz.prog 21 #[.int .i64 k, v, u] w fun e w' => ∃ g, e = .returned (.agg #[.int .i64 0, .int .i64 k, .int .i64 0, .string ⟨#[]⟩, .slice none 0 0, .slice none 0 0, .slice (some ⟨g, 0, none⟩) 2 2]) ∧ ExRow w' (.slice (some ⟨g, 0, none⟩) 2 2) [x, y] ∧ Below w.heap.size w w' := by
  obtain ⟨At, ct, An, cn, Ap, cp, rfl, -⟩ := hv.agg
  obtain ⟨Bt, dt, Bn, dn, Bp, dp, rfl, -⟩ := hu.agg
  have HV := Lib.hid hv
  have HU := Lib.hid hu
  clear hv hu
  go_enter Tryz.func21, Tryz.ntmps21
  go_wp2
  refine bodyPost_ret (v := .agg #[.int .i64 0, .int .i64 k, .int .i64 0, .string ⟨#[]⟩, .slice none 0 0, .slice none 0 0, .slice (some ⟨_, 0, none⟩) 2 2]) (by simp [results, Tryz.results21, go_sem]; rfl) rfl ⟨_, rfl, ?_, ?_⟩
  · have hb : Below w.heap.size w (((w.alloc (.cells #[.int .i64 x.pos, .int .i64 x.kind, .int .i64 x.n, .string ⟨x.s.toArray⟩, .slice At x.t.length ct, .slice An x.names.length cn, .slice Ap x.parts.length cp] 39)).alloc
        (.cells #[.int .i64 y.pos, .int .i64 y.kind, .int .i64 y.n, .string ⟨y.s.toArray⟩, .slice Bt y.t.length dt, .slice Bn y.names.length dn, .slice Bp y.parts.length dp] 39)).alloc
        (.cells #[.int .i64 0, .int .i64 k, .int .i64 0, .string ⟨#[]⟩, .slice none 0 0, .slice none 0 0, .slice (some ⟨w.heap.size + 1 + 1 + 1, 0, none⟩) 2 2] 39)) :=
      (((Below.refl _ _).alloc (Nat.le_refl _) _).alloc (by simp) _).alloc (by simp; omega) _
    have h := ExRow.new2 (IsEx.below hb _ _ HV.out) (IsEx.below hb _ _ HU.out)
    rw [size3] at h
    exact h
  · exact ((((Below.refl _ _).alloc (Nat.le_refl _) _).alloc (by simp) _).alloc (by simp; omega) _).alloc (by simp; omega) _

set_option maxRecDepth 100000 in
set_option maxHeartbeats 4000000 in
theorem lawTold (x : Sx.Ex) (s : Lx.Bytes) (v : Value) (w : World) (hG : GS w) (hN : NG ≤ w.heap.size) (hv : IsEx w v x) (hz : Sx.sizeX x ≤ 1000000) (hlen : (Sx.expr SY x).length ≤ 900000000) (hs : Sx.said (Sx.rightX NM 64 x) (Sx.expr SY x) = (s, 0)) :
    Calls Tryz.prog 20 #[v, .string ⟨s.toArray⟩] w fun e w' => e = .returned (.bool true) ∧ Below w.heap.size w w' := by
  have hx := fun X (hX : Below w.heap.size w X) => synExpr x v X (hG.below hX) (Nat.le_trans hN hX.size) (IsEx.below hX _ _ hv) hz hlen
  rw [hs] at hx
  obtain ⟨At, ct, An, cn, Ap, cp, rfl, -⟩ := hv.agg
  obtain ⟨w2, hw2⟩ : ∃ w2, w.alloc (.cells #[.int .i64 x.pos, .int .i64 x.kind, .int .i64 x.n, .string ⟨x.s.toArray⟩, .slice At x.t.length ct, .slice An x.names.length cn, .slice Ap x.parts.length cp] 39) = w2 := ⟨_, rfl⟩
  have hb2 : Below w.heap.size w w2 := by rw [← hw2]; exact grown_below (World.grownBy_alloc w _ none)
  have hbox := heap_alloc_new w (.cells #[.int .i64 x.pos, .int .i64 x.kind, .int .i64 x.n, .string ⟨x.s.toArray⟩, .slice At x.t.length ct, .slice An x.names.length cn, .slice Ap x.parts.length cp] 39)
  rw [hw2] at hbox
  obtain ⟨x0, x1, x2, x3, x4, x5, x6⟩ := seven_cells hbox
  have hl := lt_of_block hbox
  have HX := Lib.hid (hx w2 hb2)
  have HB := Lib.hid hb2
  clear hx hb2 hbox hG hs hlen hz hv
  go_enter Tryz.func20, Tryz.ntmps20
  go_wp2_with (go_at_call 23; refine HX.out.mono ?_; rintro e w3 ⟨rfl, hb3⟩)
  go_ret
  exact ⟨by simp, HB.out.trans (hb3.mono HB.out.size)⟩

end Go.Proofs.YtdncljdfmdgdaaaGreatDoor

namespace Go.Proofs.YtdncljdfmdgdaaaGreatDoor
set_option linter.unusedVariables false
mutual
/-- coilkeep's size of statements, with no limit. -/
def Sx.sizeS : Sx.St → Nat
  | .mk _ _ nm t x b e => 1 + nm.length + Sx.sizeL t + Sx.sizeXs x + Sx.sizeSs b + Sx.sizeSs e
def Sx.sizeSs : List Sx.St → Nat
  | [] => 0
  | s :: l => Sx.sizeS s + Sx.sizeSs l
end
theorem Sx.sizeS_parts (s : Sx.St) : Sx.sizeS s = 1 + s.name.length + Sx.sizeL s.t + Sx.sizeXs s.x + Sx.sizeSs s.body + Sx.sizeSs s.els := by cases s; rw [Sx.sizeS]; rfl
theorem Sx.sizeS_pos (s : Sx.St) : 1 ≤ Sx.sizeS s := by rw [Sx.sizeS_parts]; omega
theorem Sx.sizeS_mem : ∀ {l : List Sx.St} {x : Sx.St}, x ∈ l → Sx.sizeS x ≤ Sx.sizeSs l
  | u :: l, t, h => by
    rw [Sx.sizeSs]
    rcases List.mem_cons.1 h with rfl | h
    · omega
    · have := Sx.sizeS_mem h; omega
theorem Sx.length_sizeSs : ∀ (l : List Sx.St), l.length ≤ Sx.sizeSs l
  | [] => by simp [Sx.sizeSs]
  | t :: l => by
    rw [Sx.sizeSs, List.length_cons]
    have := Sx.length_sizeSs l
    have := Sx.sizeS_pos t
    omega
end Go.Proofs.YtdncljdfmdgdaaaGreatDoor
