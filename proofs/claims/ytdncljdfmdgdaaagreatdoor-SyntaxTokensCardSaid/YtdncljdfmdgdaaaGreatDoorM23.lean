/-
  What an argument of chapter 2 is, out of the row's condition: expressions, statements.
  The walk of coilkeep.SizeExpr.
  The walk of coilkeep.SizeStmts.
-/
import Derived.Test.YtdncljdfmdgdaaaGreatDoorM11
import Derived.Test.YtdncljdfmdgdaaaGreatDoorM22
namespace Go.Proofs.YtdncljdfmdgdaaaGreatDoor
open Go.ChangeShapes Go.WideShapes Go.ChangeAt Go.RowKit
set_option linter.unusedSimpArgs false
set_option linter.unusedVariables false

theorem list_seven {l : List Value} (h : l.length = 7) : ∃ a b c d e f g, l = [a, b, c, d, e, f, g] := by
  match l, h with
  | [a, b, c, d, e, f, g], _ => exact ⟨a, b, c, d, e, f, g, rfl⟩
theorem uEx : Tryz.prog.underlying 39 = some (.struct (Tryz.prog.fieldsOf 39)) := by kernel_rfl
theorem cEx : Tryz.prog.cellsOf 39 = 7 := by kernel_rfl
theorem bEx : 1 ≤ Tryz.prog.bytesOf 39 := of_decide_eq_true (by kernel_rfl)
theorem cSlEx : Tryz.prog.cellsOf 37 = 1 := by kernel_rfl
theorem uSlEx : Tryz.prog.underlying 37 = some (.slice 39) := by kernel_rfl
theorem fEx0 : (Tryz.prog.fieldsOf 39)[0]?.map (fun f => (f.type, f.offset)) = some (36, 0) := by kernel_rfl
theorem fEx1 : (Tryz.prog.fieldsOf 39)[1]?.map (fun f => (f.type, f.offset)) = some (3, 1) := by kernel_rfl
theorem fEx2 : (Tryz.prog.fieldsOf 39)[2]?.map (fun f => (f.type, f.offset)) = some (3, 2) := by kernel_rfl
theorem fEx3 : (Tryz.prog.fieldsOf 39)[3]?.map (fun f => (f.type, f.offset)) = some (9, 3) := by kernel_rfl
theorem fEx4 : (Tryz.prog.fieldsOf 39)[4]?.map (fun f => (f.type, f.offset)) = some (24, 4) := by kernel_rfl
theorem fEx5 : (Tryz.prog.fieldsOf 39)[5]?.map (fun f => (f.type, f.offset)) = some (22, 5) := by kernel_rfl
theorem fEx6 : (Tryz.prog.fieldsOf 39)[6]?.map (fun f => (f.type, f.offset)) = some (37, 6) := by kernel_rfl
theorem uSt : Tryz.prog.underlying 69 = some (.struct (Tryz.prog.fieldsOf 69)) := by kernel_rfl
theorem cSt : Tryz.prog.cellsOf 69 = 7 := by kernel_rfl
theorem bSt : 1 ≤ Tryz.prog.bytesOf 69 := of_decide_eq_true (by kernel_rfl)
theorem cSlSt : Tryz.prog.cellsOf 60 = 1 := by kernel_rfl
theorem uSlSt : Tryz.prog.underlying 60 = some (.slice 69) := by kernel_rfl
theorem fSt0 : (Tryz.prog.fieldsOf 69)[0]?.map (fun f => (f.type, f.offset)) = some (36, 0) := by kernel_rfl
theorem fSt1 : (Tryz.prog.fieldsOf 69)[1]?.map (fun f => (f.type, f.offset)) = some (3, 1) := by kernel_rfl
theorem fSt2 : (Tryz.prog.fieldsOf 69)[2]?.map (fun f => (f.type, f.offset)) = some (9, 2) := by kernel_rfl
theorem fSt3 : (Tryz.prog.fieldsOf 69)[3]?.map (fun f => (f.type, f.offset)) = some (24, 3) := by kernel_rfl
theorem fSt4 : (Tryz.prog.fieldsOf 69)[4]?.map (fun f => (f.type, f.offset)) = some (37, 4) := by kernel_rfl
theorem fSt5 : (Tryz.prog.fieldsOf 69)[5]?.map (fun f => (f.type, f.offset)) = some (60, 5) := by kernel_rfl
theorem fSt6 : (Tryz.prog.fieldsOf 69)[6]?.map (fun f => (f.type, f.offset)) = some (60, 6) := by kernel_rfl
section
variable {H : Type} {enc : TypeId × Value → H} {W : World} {sp : Nat → Bool} {held : Bool}

theorem place_of_trod {fuel : Nat} {v : Value} {x : DataW H × List MemPlace} (h : DataW.trod enc Tryz.prog W 0 sp held fuel 36 [v] = some x) (hf : Fit Tryz.prog 36 x.1) : ∃ k : Int, v = .int .i64 k := by
  obtain ⟨n0, y0, l0, h0, q0⟩ := trod_field 0 uP fP0 h hf
  rw [cI] at h0
  simp only [List.drop_zero, List.take_succ_cons, List.take_zero] at h0
  obtain ⟨k, e0, _, _⟩ := DataW.trod_int Tryz.underlying3 h0
  injection e0 with e0
  exact ⟨k, e0⟩
theorem types_of_trod {fuel : Nat} {v : Value} {x : DataW H × List MemPlace} (h : DataW.trod enc Tryz.prog W 0 sp held fuel 24 [v] = some x) (hf : Fit Tryz.prog 24 x.1) :
    ∃ l, TyRow W v l ∧ l.length ≤ reachBytes ∧ Sx.fitsL l := tys_of_trod (fun n _ => ty_of_trod n) h hf
def ExRead (W : World) (cs : List Value) : Prop := ∃ v0 v1 v2 v3 v4 v5 v6 t, cs = [v0, v1, v2, v3, v4, v5, v6] ∧ IsEx W (.agg #[v0, v1, v2, v3, v4, v5, v6]) t ∧ Sx.fitsX t
theorem exs_of_trod {fuel : Nat} (ih : ∀ n, n < fuel → ∀ (cs : List Value) (x : DataW H × List MemPlace), DataW.trod enc Tryz.prog W 0 sp held n 39 cs = some x → Fit Tryz.prog 39 x.1 → ExRead W cs)
    {v : Value} {x : DataW H × List MemPlace} (h : DataW.trod enc Tryz.prog W 0 sp held fuel 37 [v] = some x) (hf : Fit Tryz.prog 37 x.1) :
    ∃ l, ExRow W v l ∧ l.length ≤ reachBytes ∧ Sx.fitsXs l := by
  obtain ⟨a, len, cap, rfl, hlc, hlr, hi⟩ := trod_row uSlEx cEx (by decide) bEx h hf
  have key : ∀ i, i < len → ∃ t : Sx.Ex, (∃ g off v0 v1 v2 v3 v4 v5 v6, a = some ⟨g, off, none⟩ ∧ W.cell? ⟨g, off + (0 + i) * 7, none⟩ = some v0 ∧ W.cell? ⟨g, off + (0 + i) * 7 + 1, none⟩ = some v1 ∧ W.cell? ⟨g, off + (0 + i) * 7 + 2, none⟩ = some v2 ∧ W.cell? ⟨g, off + (0 + i) * 7 + 3, none⟩ = some v3 ∧ W.cell? ⟨g, off + (0 + i) * 7 + 4, none⟩ = some v4 ∧ W.cell? ⟨g, off + (0 + i) * 7 + 5, none⟩ = some v5 ∧ W.cell? ⟨g, off + (0 + i) * 7 + 6, none⟩ = some v6 ∧ IsEx W (.agg #[v0, v1, v2, v3, v4, v5, v6]) t) ∧ Sx.fitsX t := by
    intro i hil
    obtain ⟨g, off, cs, n, y, rfl, hn, hl, hc, ht, hfy⟩ := hi i hil
    obtain ⟨v0, v1, v2, v3, v4, v5, v6, t, rfl, hty, hfit⟩ := ih n hn cs y ht hfy
    rw [Nat.zero_add]
    exact ⟨t, ⟨g, off, v0, v1, v2, v3, v4, v5, v6, rfl, hc 0 (by decide), hc 1 (by decide), hc 2 (by decide), hc 3 (by decide), hc 4 (by decide), hc 5 (by decide), hc 6 (by decide), hty⟩, hfit⟩
  obtain ⟨l, hl, hp⟩ := list_of_all len key
  refine ⟨l, ⟨a, cap, by rw [hl], by omega, IsExs.mk fun m h => (hp m h).1⟩, by omega, Sx.fitsXs_of fun t ht => ?_⟩
  obtain ⟨i, hi, rfl⟩ := List.getElem_of_mem ht
  exact (hp i hi).2
set_option maxRecDepth 100000 in
theorem ex_of_trod : ∀ (fuel : Nat) (cs : List Value) (x : DataW H × List MemPlace), DataW.trod enc Tryz.prog W 0 sp held fuel 39 cs = some x → Fit Tryz.prog 39 x.1 → ExRead W cs := by
  intro fuel
  induction fuel using Nat.strongRecOn with
  | _ fuel ih =>
    intro cs x h hf
    obtain ⟨v0, v1, v2, v3, v4, v5, v6, rfl⟩ := list_seven ((trod_length uEx h).trans cEx)
    obtain ⟨n0, y0, l0, h0, q0⟩ := trod_field 0 uEx fEx0 h hf
    obtain ⟨n1, y1, l1, h1, q1⟩ := trod_field 1 uEx fEx1 h hf
    obtain ⟨n2, y2, l2, h2, q2⟩ := trod_field 2 uEx fEx2 h hf
    obtain ⟨n3, y3, l3, h3, q3⟩ := trod_field 3 uEx fEx3 h hf
    obtain ⟨n4, y4, l4, h4, q4⟩ := trod_field 4 uEx fEx4 h hf
    obtain ⟨n5, y5, l5, h5, q5⟩ := trod_field 5 uEx fEx5 h hf
    obtain ⟨n6, y6, l6, h6, q6⟩ := trod_field 6 uEx fEx6 h hf
    rw [cP] at h0
    rw [cI] at h1 h2
    rw [cS] at h3
    rw [cSlt] at h4
    rw [cSls] at h5
    rw [cSlEx] at h6
    simp only [List.drop_zero, List.drop_succ_cons, List.take_succ_cons, List.take_zero] at h0 h1 h2 h3 h4 h5 h6
    obtain ⟨k0, rfl⟩ := place_of_trod h0 q0
    obtain ⟨k1, e1, _, _⟩ := DataW.trod_int Tryz.underlying3 h1
    injection e1 with e1
    subst e1
    obtain ⟨k2, e2, _, w2⟩ := DataW.trod_int Tryz.underlying3 h2
    injection e2 with e2
    subst e2
    obtain ⟨s, rfl, z3⟩ := trod_str Tryz.underlying9 h3 q3
    obtain ⟨ts, r4, z4, z4'⟩ := types_of_trod h4 q4
    obtain ⟨ns, r5, z5, z5'⟩ := strs_of_trod h5 q5
    obtain ⟨ps, ⟨A, c, rfl, hc, r6⟩, z6, z6'⟩ := exs_of_trod (fun n hn => ih n (by omega)) h6 q6
    have hb := int_bounds w2
    refine ⟨_, _, _, _, _, _, _, .mk k0 k1 k2 s ts ns ps, rfl, ?_, ?_⟩
    · rw [IsEx]
      exact ⟨_, _, A, c, rfl, r4, r5, hc, r6, hb.1, hb.2⟩
    · rw [Sx.fitsX]
      exact ⟨z3, z5, z5', z4, z4', z6, z6'⟩
def StRead (W : World) (cs : List Value) : Prop := ∃ v0 v1 v2 v3 v4 v5 v6 t, cs = [v0, v1, v2, v3, v4, v5, v6] ∧ IsSt W (.agg #[v0, v1, v2, v3, v4, v5, v6]) t ∧ Sx.fitsS t
theorem sts_of_trod {fuel : Nat} (ih : ∀ n, n < fuel → ∀ (cs : List Value) (x : DataW H × List MemPlace), DataW.trod enc Tryz.prog W 0 sp held n 69 cs = some x → Fit Tryz.prog 69 x.1 → StRead W cs)
    {v : Value} {x : DataW H × List MemPlace} (h : DataW.trod enc Tryz.prog W 0 sp held fuel 60 [v] = some x) (hf : Fit Tryz.prog 60 x.1) :
    ∃ l, StRow W v l ∧ l.length ≤ reachBytes ∧ Sx.fitsSs l := by
  obtain ⟨a, len, cap, rfl, hlc, hlr, hi⟩ := trod_row uSlSt cSt (by decide) bSt h hf
  have key : ∀ i, i < len → ∃ t : Sx.St, (∃ g off v0 v1 v2 v3 v4 v5 v6, a = some ⟨g, off, none⟩ ∧ W.cell? ⟨g, off + (0 + i) * 7, none⟩ = some v0 ∧ W.cell? ⟨g, off + (0 + i) * 7 + 1, none⟩ = some v1 ∧ W.cell? ⟨g, off + (0 + i) * 7 + 2, none⟩ = some v2 ∧ W.cell? ⟨g, off + (0 + i) * 7 + 3, none⟩ = some v3 ∧ W.cell? ⟨g, off + (0 + i) * 7 + 4, none⟩ = some v4 ∧ W.cell? ⟨g, off + (0 + i) * 7 + 5, none⟩ = some v5 ∧ W.cell? ⟨g, off + (0 + i) * 7 + 6, none⟩ = some v6 ∧ IsSt W (.agg #[v0, v1, v2, v3, v4, v5, v6]) t) ∧ Sx.fitsS t := by
    intro i hil
    obtain ⟨g, off, cs, n, y, rfl, hn, hl, hc, ht, hfy⟩ := hi i hil
    obtain ⟨v0, v1, v2, v3, v4, v5, v6, t, rfl, hty, hfit⟩ := ih n hn cs y ht hfy
    rw [Nat.zero_add]
    exact ⟨t, ⟨g, off, v0, v1, v2, v3, v4, v5, v6, rfl, hc 0 (by decide), hc 1 (by decide), hc 2 (by decide), hc 3 (by decide), hc 4 (by decide), hc 5 (by decide), hc 6 (by decide), hty⟩, hfit⟩
  obtain ⟨l, hl, hp⟩ := list_of_all len key
  refine ⟨l, ⟨a, cap, by rw [hl], by omega, IsSts.mk fun m h => (hp m h).1⟩, by omega, Sx.fitsSs_of fun t ht => ?_⟩
  obtain ⟨i, hi, rfl⟩ := List.getElem_of_mem ht
  exact (hp i hi).2
theorem exprs_of_trod {fuel : Nat} {v : Value} {x : DataW H × List MemPlace} (h : DataW.trod enc Tryz.prog W 0 sp held fuel 37 [v] = some x) (hf : Fit Tryz.prog 37 x.1) :
    ∃ l, ExRow W v l ∧ l.length ≤ reachBytes ∧ Sx.fitsXs l := exs_of_trod (fun n _ => ex_of_trod n) h hf
set_option maxRecDepth 100000 in
theorem st_of_trod : ∀ (fuel : Nat) (cs : List Value) (x : DataW H × List MemPlace), DataW.trod enc Tryz.prog W 0 sp held fuel 69 cs = some x → Fit Tryz.prog 69 x.1 → StRead W cs := by
  intro fuel
  induction fuel using Nat.strongRecOn with
  | _ fuel ih =>
    intro cs x h hf
    obtain ⟨v0, v1, v2, v3, v4, v5, v6, rfl⟩ := list_seven ((trod_length uSt h).trans cSt)
    obtain ⟨n0, y0, l0, h0, q0⟩ := trod_field 0 uSt fSt0 h hf
    obtain ⟨n1, y1, l1, h1, q1⟩ := trod_field 1 uSt fSt1 h hf
    obtain ⟨n2, y2, l2, h2, q2⟩ := trod_field 2 uSt fSt2 h hf
    obtain ⟨n3, y3, l3, h3, q3⟩ := trod_field 3 uSt fSt3 h hf
    obtain ⟨n4, y4, l4, h4, q4⟩ := trod_field 4 uSt fSt4 h hf
    obtain ⟨n5, y5, l5, h5, q5⟩ := trod_field 5 uSt fSt5 h hf
    obtain ⟨n6, y6, l6, h6, q6⟩ := trod_field 6 uSt fSt6 h hf
    rw [cP] at h0
    rw [cI] at h1
    rw [cS] at h2
    rw [cSlt] at h3
    rw [cSlEx] at h4
    rw [cSlSt] at h5 h6
    simp only [List.drop_zero, List.drop_succ_cons, List.take_succ_cons, List.take_zero] at h0 h1 h2 h3 h4 h5 h6
    obtain ⟨k0, rfl⟩ := place_of_trod h0 q0
    obtain ⟨k1, e1, _, _⟩ := DataW.trod_int Tryz.underlying3 h1
    injection e1 with e1
    subst e1
    obtain ⟨s, rfl, z2⟩ := trod_str Tryz.underlying9 h2 q2
    obtain ⟨ts, r3, z3, z3'⟩ := types_of_trod h3 q3
    obtain ⟨xs, r4, z4, z4'⟩ := exprs_of_trod h4 q4
    obtain ⟨bs, ⟨A, c, rfl, hc, r5⟩, z5, z5'⟩ := sts_of_trod (fun n hn => ih n (by omega)) h5 q5
    obtain ⟨es, ⟨A2, c2, rfl, hc2, r6⟩, z6, z6'⟩ := sts_of_trod (fun n hn => ih n (by omega)) h6 q6
    refine ⟨_, _, _, _, _, _, _, .mk k0 k1 s ts xs bs es, rfl, ?_, ?_⟩
    · rw [IsSt]
      exact ⟨_, _, A, c, A2, c2, rfl, r3, r4, hc, r5, hc2, r6⟩
    · rw [Sx.fitsS]
      exact ⟨z2, z3, z3', z4, z4', ⟨z5, z5'⟩, ⟨z6, z6'⟩⟩
/-- A law's argument: an expression; statements. -/
def ExArg (W : World) (v : Value) (t : Sx.Ex) : Prop := IsEx W v t ∧ Sx.fitsX t
def StsArg (W : World) (v : Value) (l : List Sx.St) : Prop := StRow W v l ∧ l.length ≤ 140737488351232 ∧ Sx.fitsSs l
set_option maxRecDepth 100000 in
theorem open_ex {base : Nat} {v : Value} {d : DataW H} {p : List MemPlace} (hval : Value.okWide Tryz.prog W .any base 39 v) (hd : DataW.Trod enc Tryz.prog W 0 sp held 39 v d p) (hf : Fit Tryz.prog 39 d) :
    ∃ t, ExArg W v t := by
  obtain ⟨cs, rfl, hsz⟩ := okWide_struct uEx hval
  obtain ⟨fuel, h⟩ := hd
  obtain ⟨v0, v1, v2, v3, v4, v5, v6, t, he, ht, hfit⟩ := ex_of_trod fuel _ _ h hf
  refine ⟨t, ?_, hfit⟩
  have : cs = #[v0, v1, v2, v3, v4, v5, v6] := by
    apply Array.toList_inj.1
    exact he
  rw [this]
  exact ht
set_option maxRecDepth 100000 in
theorem open_sts {base : Nat} {v : Value} {d : DataW H} {p : List MemPlace} (hval : Value.okWide Tryz.prog W .any base 60 v) (hd : DataW.Trod enc Tryz.prog W 0 sp held 60 v d p) (hf : Fit Tryz.prog 60 d) :
    ∃ l, StsArg W v l := by
  obtain ⟨a0, len, cap, rfl⟩ := okWide_slice uSlSt hval
  obtain ⟨fuel, h⟩ := hd
  exact sts_of_trod (fun n _ => st_of_trod n) (v := .slice a0 len cap) (show DataW.trod enc Tryz.prog W 0 sp held fuel 60 [.slice a0 len cap] = some (d, p) from h) hf
end

end Go.Proofs.YtdncljdfmdgdaaaGreatDoor

namespace Go.Proofs.YtdncljdfmdgdaaaGreatDoor
open Go.RowKit Go.Shelf
set_option linter.unusedSimpArgs false
set_option linter.unusedVariables false

set_option maxRecDepth 100000 in
set_option maxHeartbeats 8000000 in
theorem keepSizeX : ∀ (n : Nat) (t : Sx.Ex), Sx.sizeX t ≤ n → Sx.fitsX t → ∀ (most : Nat) (v : Value) (W : World), 1 ≤ most → most ≤ 1000000 → IsEx W v t →
    Calls Tryz.prog 31 #[v, .int .i64 (most : Nat)] W (SizeIs most (Sx.sizeX t) W) := by
  intro n
  induction n with
  | zero => intro t h; have := Sx.sizeX_pos t; omega
  | succ n ih =>
    intro t hn hf most v W hm1 hm2 ht
    obtain ⟨f1, f2, f3, f4, f5, f6, f7⟩ := Sx.fitsX_parts hf
    obtain ⟨At, ct, An, cn, Ap, cp, rfl, htt, hnm, hp, -⟩ := ht.agg
    have hsp := Sx.sizeX_parts t
    obtain ⟨nl, hnl⟩ : ∃ k, t.names.length = k := ⟨_, rfl⟩
    obtain ⟨tl, htl⟩ : ∃ k, t.t.length = k := ⟨_, rfl⟩
    obtain ⟨k, hk⟩ : ∃ k, t.parts.length = k := ⟨_, rfl⟩
    obtain ⟨ll, hll⟩ : ∃ k, t.s.length = k := ⟨_, rfl⟩
    rw [hnl, hll] at hsp
    rw [hnl] at f2 hnm
    rw [htl] at f4 htt
    rw [hk] at f6 hp
    rw [hll] at f1
    rw [hnl, htl, hk]
    have i1a : (0 : Int) ≤ (ll : Int) := by omega
    have i1b : (ll : Int) ≤ 140737488351232 := by omega
    have i2a : (0 : Int) ≤ (nl : Int) := by omega
    have i2b : (nl : Int) ≤ 140737488351232 := by omega
    have i3a : (0 : Int) ≤ (tl : Int) := by omega
    have i3b : (tl : Int) ≤ 140737488351232 := by omega
    have i4a : (0 : Int) ≤ (k : Int) := by omega
    have i4b : (k : Int) ≤ 140737488351232 := by omega
    have i5a : (1 : Int) ≤ (most : Int) := by omega
    have i5b : (most : Int) ≤ 1000000 := by omega
    have hstr : (⟨t.s.toArray⟩ : ByteArray).size = ll := by simp [ByteArray.size, hll]
    have HIH := Lib.hid ih
    have HSP := Lib.hid hsp
    have HN := Lib.hid hn
    have HNM := Lib.hid hnm
    have HP := Lib.hid hp
    have HTT := Lib.hid htt
    have HF3 := Lib.hid f3
    have HF5 := Lib.hid f5
    have HF7 := Lib.hid f7
    have HNL := Lib.hid hnl
    have HTL := Lib.hid htl
    have HK := Lib.hid hk
    have HTSZ := Lib.hid (show ∀ p ∈ t.t, Sx.size p ≤ Sx.sizeL t.t from fun p hp => Sx.size_mem hp)
    obtain ⟨L, hL⟩ : ∃ L, W.heap.size = L := ⟨_, rfl⟩
    obtain ⟨w2, hw2⟩ : ∃ w2, W.alloc (.cells #[.int .i64 t.pos, .int .i64 t.kind, .int .i64 t.n, .string ⟨t.s.toArray⟩, .slice At tl ct, .slice An nl cn, .slice Ap k cp] 39) = w2 := ⟨_, rfl⟩
    have hbox : w2.heap[L]? = some (.cells #[.int .i64 t.pos, .int .i64 t.kind, .int .i64 t.n, .string ⟨t.s.toArray⟩, .slice At tl ct, .slice An nl cn, .slice Ap k cp] 39 (0, 0)) := by rw [← hw2, ← hL]; exact heap_alloc_new W _
    have hb2 : Below L W w2 := by rw [← hw2, ← hL]; exact grown_below (World.grownBy_alloc W _ none)
    obtain ⟨x0, x1, x2, x3, x4, x5, x6⟩ := seven_cells hbox
    have hl2 := lt_of_block hbox
    have HBX := Lib.hid hbox
    have HB2 := Lib.hid hb2
    have HL := Lib.hid hL
    clear ih hsp hn hnm htt hp f3 f5 f7 hnl htl hk hll ht hf hbox hb2
    go_enter Tryz.func31, Tryz.ntmps31
    go_upto_block 0 with (fail)
    obtain ⟨bs, hbs⟩ : ∃ b : Int, 1 + (ll : Int) + (nl : Int) = b := ⟨_, rfl⟩
    have HBS := Lib.hid hbs
    rw [hbs]
    clear hbs
    go_cut [5] (fun v wx => wx = w2 ∧ ∃ r : Nat, v = .int .i64 (r : Nat) ∧ r ≤ most + 500000000000000 ∧ (r < most → r = 1 + ll + nl + (t.names.map List.length).sum))
    case first =>
      go_wp2_with fail
      go_loopg [5, 6] nl (fun i v u wr => ∃ (m r : Nat), i = nl - m ∧ v = .int .i64 (r : Nat) ∧ u = .int .i64 (m : Nat) ∧ m ≤ nl ∧ r ≤ most + 500000000000000 ∧ (r < most → r = 1 + ll + nl + ((t.names.take m).map List.length).sum) ∧ wr = w2)
      case atStart => exact ⟨0, 1 + ll + nl, rfl, by have := HBS.out; congr 1; omega, rfl, Nat.zero_le _, by omega, by simp, rfl⟩
      case round =>
        obtain ⟨m, r, hi, rfl, rfl, hm, hr1, hr2, rfl⟩ := hrel
        have HI := Lib.hid hi
        have HR2 := Lib.hid hr2
        have m0 : (0 : Int) ≤ (m : Int) := by omega
        have r0 : (0 : Int) ≤ (r : Int) := by omega
        have r1 : (r : Int) ≤ 500000001000000 := by omega
        clear hi hr2
        by_cases hlt : m < nl
        · have hmi : (m : Int) < (nl : Int) := by omega
          by_cases hrm : r < most
          · have hri : (r : Int) < (most : Int) := by omega
            have hmn : m < t.names.length := by have := HNL.out; omega
            obtain ⟨g1, off1, rfl, hsp1⟩ := HNM.out.spot m hmn
            obtain ⟨hg1, q1⟩ := hsp1 wr (by rw [HL.out]; exact HB2.out)
            have hst := Sx.sum_take hmn
            have hfl := HF3.out _ (List.getElem_mem hmn)
            obtain ⟨s, hse⟩ : ∃ s, t.names[m]'hmn = s := ⟨_, rfl⟩
            rw [hse] at q1 hst hfl
            obtain ⟨sl, hsl⟩ : ∃ k, s.length = k := ⟨_, rfl⟩
            have hsz : (⟨s.toArray⟩ : ByteArray).size = sl := by simp [ByteArray.size, hsl]
            rw [hsl] at hst hfl
            have s0 : (0 : Int) ≤ (sl : Int) := by omega
            have s1 : (sl : Int) ≤ 140737488351232 := by omega
            have HST := Lib.hid hst
            have HRR := Lib.hid (HR2.out hrm)
            clear hst hse hsl hsp1
            go_wp2_with fail
            go_roundg (nl - (m + 1))
            case measure => have := HI.out; omega
            case rel => exact ⟨m + 1, r + sl, rfl, by simp, by simp, hlt, by omega, fun _ => by rw [HST.out, HRR.out]; omega, rfl⟩
          · have hri : decide ((r : Int) < (most : Int)) = false := by rw [decide_eq_false_iff_not]; omega
            have hri2 : ¬ (r : Int) < (most : Int) := by omega
            go_wp2_with fail
            go_meet
            exact ⟨rfl, r, rfl, hr1, fun h => absurd h hrm⟩
        · have hmi : decide ((m : Int) < (nl : Int)) = false := by rw [decide_eq_false_iff_not]; omega
          have hmi2 : ¬ (m : Int) < (nl : Int) := by omega
          have hfull := List.take_of_length_le (show t.names.length ≤ m by have := HNL.out; omega)
          have HFU := Lib.hid hfull
          clear hfull
          go_wp2_with fail
          go_meet
          exact ⟨rfl, r, rfl, hr1, fun h => by rw [HR2.out h, HFU.out]⟩
    case rest =>
      obtain ⟨rfl, r, rfl, hr1, hr2⟩ := hcut
      have HR2 := Lib.hid hr2
      have r0 : (0 : Int) ≤ (r : Int) := by omega
      have r1 : (r : Int) ≤ 500000001000000 := by omega
      clear hr2
      go_upto_block 2 with (fail)
      go_cut [5] (fun v wx => ∃ r : Nat, v = .int .i64 (r : Nat) ∧ r ≤ most + 500000000000000 ∧ (r < most → r = 1 + ll + nl + (t.names.map List.length).sum + Sx.sizeL t.t) ∧ Below L W wx ∧ wx.heap[L]? = wc.heap[L]?)
      case first =>
        go_wp2_with fail
        clear x0 x1 x2 x3 x4 x5 x6
        go_loopg [5, 7] tl (fun i v u wr => ∃ (m r : Nat), i = tl - m ∧ v = .int .i64 (r : Nat) ∧ u = .int .i64 (m : Nat) ∧ m ≤ tl ∧ r ≤ most + 500000000000000 ∧ (r < most → r = 1 + ll + nl + (t.names.map List.length).sum + Sx.sizeL (t.t.take m)) ∧ Below L W wr ∧ wr.heap[L]? = wc.heap[L]?)
        case atStart => exact ⟨0, r, rfl, rfl, rfl, Nat.zero_le _, hr1, by have := HR2.out; simpa [Sx.sizeL] using this, HB2.out, rfl⟩
        case round =>
          obtain ⟨m, q, hi, rfl, rfl, hm, hq1, hq2, hwr, hbr⟩ := hrel
          rw [HBX.out] at hbr
          obtain ⟨x0, x1, x2, x3, x4, x5, x6⟩ := seven_cells hbr
          have hlr := lt_of_block hbr
          have hLs : L ≤ wr.heap.size := by omega
          have HI := Lib.hid hi
          have HQ2 := Lib.hid hq2
          have HWR := Lib.hid hwr
          have HBR := Lib.hid hbr
          have m0 : (0 : Int) ≤ (m : Int) := by omega
          have q0 : (0 : Int) ≤ (q : Int) := by omega
          have q1 : (q : Int) ≤ 500000001000000 := by omega
          clear hi hq2 hwr hbr
          by_cases hlt : m < tl
          · have hmi : (m : Int) < (tl : Int) := by omega
            by_cases hrm : q < most
            · have hri : (q : Int) < (most : Int) := by omega
              have hmp : m < t.t.length := by have := HTL.out; omega
              obtain ⟨g, off, An1, cn1, Ae1, ce1, Aq, cq, rfl, hty, hc5⟩ := HTT.out.spot m hmp
              rw [HL.out] at hc5
              obtain ⟨hg, c0, c1, c2, c3, c4⟩ := hc5 wr HWR.out
              have hst := Sx.size_take hmp
              have hff := HF5.out _ (List.getElem_mem hmp)
              have hsm := Sx.size_mem (List.getElem_mem hmp)
              obtain ⟨p, hpe⟩ : ∃ p, t.t[m]'hmp = p := ⟨_, rfl⟩
              rw [hpe] at c0 c1 c2 c3 c4 hty hst hff hsm
              obtain ⟨d, hd⟩ : ∃ d : Int, (most : Int) - (q : Int) = d := ⟨_, rfl⟩
              have d0 : 1 ≤ d := by omega
              have d1 : d ≤ 1000000 := by omega
              have hre := keepSize _ p (Nat.le_refl _) hff (most - q) _ wr (by omega) (by omega) (IsTy.below (by rw [HL.out]; exact HWR.out) _ _ hty)
              rw [show ((most - q : Nat) : Int) = d by omega] at hre
              have HRE := Lib.hid hre
              have HST := Lib.hid hst
              have HQR := Lib.hid (HQ2.out hrm)
              clear hre hst hff hsm hpe hty hc5
              go_wp2_with fail
              refine HRE.out.mono ?_
              rintro e w5 ⟨z, rfl, hz1, hz2, hb5⟩
              have z0 : (0 : Int) ≤ (z : Int) := by omega
              have hz3 : z + q ≤ most + 500000000000000 := by omega
              have z1 : (z : Int) ≤ 500000001000000 := by omega
              have z2 : (q : Int) + (z : Int) ≤ 500000001000000 := by omega
              have HZ2 := Lib.hid hz2
              clear hz2
              go_wp2_with fail
              go_roundg (tl - (m + 1))
              case measure => have := HI.out; omega
              case rel =>
                refine ⟨m + 1, q + z, rfl, by simp, by simp, hlt, by omega, fun hlz => ?_, HWR.out.trans (hb5.mono hLs), ?_⟩
                · rw [HST.out, HZ2.out (by omega), HQR.out]; omega
                · rw [HBX.out, hb5.block L hlr, HBR.out]
            · have hri : decide ((q : Int) < (most : Int)) = false := by rw [decide_eq_false_iff_not]; omega
              have hri2 : ¬ (q : Int) < (most : Int) := by omega
              go_wp2_with fail
              go_meet
              exact ⟨q, rfl, hq1, fun h => absurd h hrm, HWR.out, by rw [HBX.out, HBR.out]⟩
          · have hmi : decide ((m : Int) < (tl : Int)) = false := by rw [decide_eq_false_iff_not]; omega
            have hmi2 : ¬ (m : Int) < (tl : Int) := by omega
            have hfull := List.take_of_length_le (show t.t.length ≤ m by have := HTL.out; omega)
            have HFU := Lib.hid hfull
            clear hfull
            go_wp2_with fail
            go_meet
            exact ⟨q, rfl, hq1, fun h => by rw [HQ2.out h, HFU.out], HWR.out, by rw [HBX.out, HBR.out]⟩
      case rest =>
        rename_i wd
        obtain ⟨r, rfl, hr1, hr2, hwr, hbr⟩ := hcut
        rw [HBX.out] at hbr
        have HR2 := Lib.hid hr2
        have r0 : (0 : Int) ≤ (r : Int) := by omega
        have r1 : (r : Int) ≤ 500000001000000 := by omega
        have HBX := Lib.hid hbr
        have HB2 := Lib.hid hwr
        clear hr2 x0 x1 x2 x3 x4 x5 x6
        go_wp2_with fail
        go_loopg [5, 8] k (fun i v u wr => ∃ (m r : Nat), i = k - m ∧ v = .int .i64 (r : Nat) ∧ u = .int .i64 (m : Nat) ∧ m ≤ k ∧ r ≤ most + 500000000000000 ∧ (r < most → r = 1 + ll + nl + (t.names.map List.length).sum + Sx.sizeL t.t + Sx.sizeXs (t.parts.take m)) ∧ Below L W wr ∧ wr.heap[L]? = wc.heap[L]?)
        case atStart => exact ⟨0, r, rfl, rfl, rfl, Nat.zero_le _, hr1, by have := HR2.out; simpa [Sx.sizeXs] using this, HB2.out, rfl⟩
        case round =>
          obtain ⟨m, q, hi, rfl, rfl, hm, hq1, hq2, hwr, hbr⟩ := hrel
          rw [HBX.out] at hbr
          obtain ⟨x0, x1, x2, x3, x4, x5, x6⟩ := seven_cells hbr
          have hlr := lt_of_block hbr
          have hLs : L ≤ wr.heap.size := by omega
          have HI := Lib.hid hi
          have HQ2 := Lib.hid hq2
          have HWR := Lib.hid hwr
          have HBR := Lib.hid hbr
          have m0 : (0 : Int) ≤ (m : Int) := by omega
          have q0 : (0 : Int) ≤ (q : Int) := by omega
          have q1 : (q : Int) ≤ 500000001000000 := by omega
          clear hi hq2 hwr hbr
          by_cases hlt : m < k
          · have hmi : (m : Int) < (k : Int) := by omega
            by_cases hrm : q < most
            · have hri : (q : Int) < (most : Int) := by omega
              have hmp : m < t.parts.length := by have := HK.out; omega
              obtain ⟨g, off, A9, c9, A8, c8, Aq, cq, rfl, hty, hc5⟩ := HP.out.spot m hmp
              rw [HL.out] at hc5
              obtain ⟨hg, c0, c1, c2, c3, c4, c5, c6⟩ := hc5 wr HWR.out
              have hst := Sx.sizeX_take hmp
              have hff := HF7.out _ (List.getElem_mem hmp)
              have hsm := Sx.sizeX_mem (List.getElem_mem hmp)
              obtain ⟨p, hpe⟩ : ∃ p, t.parts[m]'hmp = p := ⟨_, rfl⟩
              rw [hpe] at c0 c1 c2 c3 c4 c5 c6 hty hst hff hsm
              obtain ⟨d, hd⟩ : ∃ d : Int, (most : Int) - (q : Int) = d := ⟨_, rfl⟩
              have d0 : 1 ≤ d := by omega
              have d1 : d ≤ 1000000 := by omega
              have hre := HIH.out p (by have := HN.out; have := HSP.out; omega) hff (most - q) _ wr (by omega) (by omega) (IsEx.below (by rw [HL.out]; exact HWR.out) _ _ hty)
              rw [show ((most - q : Nat) : Int) = d by omega] at hre
              have HRE := Lib.hid hre
              have HST := Lib.hid hst
              have HQR := Lib.hid (HQ2.out hrm)
              clear hre hst hff hsm hpe hty hc5
              go_wp2_with fail
              refine HRE.out.mono ?_
              rintro e w5 ⟨z, rfl, hz1, hz2, hb5⟩
              have z0 : (0 : Int) ≤ (z : Int) := by omega
              have hz3 : z + q ≤ most + 500000000000000 := by omega
              have z1 : (z : Int) ≤ 500000001000000 := by omega
              have z2 : (q : Int) + (z : Int) ≤ 500000001000000 := by omega
              have HZ2 := Lib.hid hz2
              clear hz2
              go_wp2_with fail
              go_roundg (k - (m + 1))
              case measure => have := HI.out; omega
              case rel =>
                refine ⟨m + 1, q + z, rfl, by simp, by simp, hlt, by omega, fun hlz => ?_, HWR.out.trans (hb5.mono hLs), ?_⟩
                · rw [HST.out, HZ2.out (by omega), HQR.out]; omega
                · rw [HBX.out, hb5.block L hlr, HBR.out]
            · have hri : decide ((q : Int) < (most : Int)) = false := by rw [decide_eq_false_iff_not]; omega
              have hri2 : ¬ (q : Int) < (most : Int) := by omega
              go_wp2_with fail
              go_ret
              exact ⟨q, rfl, hq1, fun h => absurd h hrm, by rw [HL.out]; exact HWR.out⟩
          · have hmi : decide ((m : Int) < (k : Int)) = false := by rw [decide_eq_false_iff_not]; omega
            have hmi2 : ¬ (m : Int) < (k : Int) := by omega
            have hfull := List.take_of_length_le (show t.parts.length ≤ m by have := HK.out; omega)
            have HFU := Lib.hid hfull
            clear hfull
            go_wp2_with fail
            go_ret
            refine ⟨q, rfl, hq1, fun h => ?_, by rw [HL.out]; exact HWR.out⟩
            have := HQ2.out h
            rw [HFU.out] at this
            rw [this, HSP.out]

end Go.Proofs.YtdncljdfmdgdaaaGreatDoor

namespace Go.Proofs.YtdncljdfmdgdaaaGreatDoor
open Go.RowKit Go.Shelf
set_option linter.unusedSimpArgs false
set_option linter.unusedVariables false

set_option maxRecDepth 100000 in
set_option maxHeartbeats 16000000 in
theorem keepSizeS : ∀ (n : Nat) (l : List Sx.St), Sx.sizeSs l < n → Sx.fitsSs l → l.length ≤ 140737488351232 → ∀ (most : Nat) (v : Value) (W : World), 1 ≤ most → most ≤ 1000000 → StRow W v l →
    Calls Tryz.prog 36 #[v, .int .i64 (most : Nat)] W (SizeIs most (Sx.sizeSs l) W) := by
  intro n
  induction n with
  | zero => intro l h; omega
  | succ n ih =>
    intro l hn hf hlr most v W hm1 hm2 hv
    obtain ⟨A, c, rfl, hca, hra⟩ := hv
    have HV := Lib.hid (show StRow W (.slice A l.length c) l from ⟨A, c, rfl, hca, hra⟩)
    clear hca hra
    obtain ⟨k, hk⟩ : ∃ k, l.length = k := ⟨_, rfl⟩
    rw [hk] at HV hlr ⊢
    have k0 : (0 : Int) ≤ (k : Int) := by omega
    have k1 : (k : Int) ≤ 140737488351232 := by omega
    have i5a : (1 : Int) ≤ (most : Int) := by omega
    have i5b : (most : Int) ≤ 1000000 := by omega
    obtain ⟨L, hL⟩ : ∃ L, W.heap.size = L := ⟨_, rfl⟩
    have HIH := Lib.hid ih
    have HN := Lib.hid hn
    have HF := Lib.hid hf
    have HK := Lib.hid hk
    have HL := Lib.hid hL
    clear ih hn hf hk hlr
    go_enter Tryz.func36, Tryz.ntmps36
    go_wp2_with fail
    go_loopg [5, 6, 7, 8] k (fun i v5 v6 v7 v8 wr => ∃ (m r : Nat), i = k - m ∧ v5 = .int .i64 (r : Nat) ∧ v6 = .int .i64 (m : Nat) ∧ m ≤ k ∧ r ≤ most + 500000000000000 ∧ (r < most → r = Sx.sizeSs (l.take m)) ∧ Below L W wr)
    case atStart => exact ⟨0, 0, rfl, rfl, rfl, Nat.zero_le _, by omega, fun _ => by simp [Sx.sizeSs], by rw [← hL]; exact Below.refl _ _⟩
    case round =>
      obtain ⟨m, r, hi, rfl, rfl, hm, hr1, hr2, hb⟩ := hrel
      have HI := Lib.hid hi
      have HR2 := Lib.hid hr2
      have HB := Lib.hid hb
      have m0 : (0 : Int) ≤ (m : Int) := by omega
      have r0 : (0 : Int) ≤ (r : Int) := by omega
      have r1 : (r : Int) ≤ 500000001000000 := by omega
      clear hi hr2 hb
      by_cases hlt : m < k
      · have hmi : (m : Int) < (k : Int) := by omega
        by_cases hrm : r < most
        · have hri : (r : Int) < (most : Int) := by omega
          have hmp : m < l.length := by have := HK.out; omega
          obtain ⟨g, off, A0, c0, A1, c1, A2, c2, A3, c3, rfl, hty, hc7⟩ := HV.out.spot m hmp
          rw [HL.out] at hc7
          have hst := Sx.sizeS_take hmp
          have hff := Sx.fitsSs_mem HF.out (List.getElem_mem hmp)
          have hsm := Sx.sizeS_mem (List.getElem_mem hmp)
          obtain ⟨s, hse⟩ : ∃ s, l[m]'hmp = s := ⟨_, rfl⟩
          rw [hse] at hty hc7 hst hff hsm
          obtain ⟨f1, f2, f3, f4, f5, ⟨f6, f6'⟩, ⟨f7, f7'⟩⟩ := Sx.fitsS_parts hff
          obtain ⟨A0', c0', A1', c1', A2', c2', A3', c3', hagg, htt, htx, htb, hte⟩ := hty.agg
          injection hagg with hagg
          simp only [Array.mk.injEq, List.cons.injEq, Value.slice.injEq, and_true, true_and] at hagg
          obtain ⟨⟨rfl, rfl⟩, ⟨rfl, rfl⟩, ⟨rfl, rfl⟩, ⟨rfl, rfl⟩⟩ := hagg
          have hsp := Sx.sizeS_parts s
          obtain ⟨nl, hnl⟩ : ∃ q, s.name.length = q := ⟨_, rfl⟩
          obtain ⟨tl, htl⟩ : ∃ q, s.t.length = q := ⟨_, rfl⟩
          obtain ⟨xl, hxl⟩ : ∃ q, s.x.length = q := ⟨_, rfl⟩
          obtain ⟨bl, hbl⟩ : ∃ q, s.body.length = q := ⟨_, rfl⟩
          obtain ⟨el, hel⟩ : ∃ q, s.els.length = q := ⟨_, rfl⟩
          rw [htl] at hc7 htt f2
          rw [hxl] at hc7 htx f4
          rw [hbl] at hc7 htb f6
          rw [hel] at hc7 hte f7
          rw [hnl] at hsp f1
          have hstr : (⟨s.name.toArray⟩ : ByteArray).size = nl := by simp [ByteArray.size, hnl]
          have nl0 : (0 : Int) ≤ (nl : Int) := by omega
          have nl1 : (nl : Int) ≤ 140737488351232 := by omega
          have tl0 : (0 : Int) ≤ (tl : Int) := by omega
          have tl1 : (tl : Int) ≤ 140737488351232 := by omega
          have xl0 : (0 : Int) ≤ (xl : Int) := by omega
          have xl1 : (xl : Int) ≤ 140737488351232 := by omega
          have HTT := Lib.hid htt
          have HTX := Lib.hid htx
          have HTB := Lib.hid htb
          have HTE := Lib.hid hte
          have HC := Lib.hid hc7
          have HF3 := Lib.hid f3
          have HF5 := Lib.hid f5
          have HF6 := Lib.hid f6'
          have HF7 := Lib.hid f7'
          have hbl2 : bl ≤ 140737488351232 := f6
          have hel2 : el ≤ 140737488351232 := f7
          have HBL := Lib.hid hbl
          have HEL := Lib.hid hel
          have HTL := Lib.hid htl
          have HXL := Lib.hid hxl
          have HST := Lib.hid hst
          have HSP := Lib.hid hsp
          have HSM := Lib.hid hsm
          have HRR := Lib.hid (HR2.out hrm)
          clear htt htx htb hte hc7 f1 f2 f3 f4 f5 f6 f7 f6' f7' hbl hel htl hxl hst hsp hsm hse hff hty hnl
          obtain ⟨hg, x0, x1, x2, x3, x4, x5, x6⟩ := HC.out wr HB.out
          go_upto_block 2 with (fail)
          go_cut [5, 7, 8] from 9 to 114 (fun v v7 v8 wx => ∃ q : Nat, v = .int .i64 (q : Nat) ∧ q ≤ most + 500000000000000 ∧ (q < most → q = r + 1 + nl + Sx.sizeL s.t) ∧ Below L W wx)
          case first =>
            go_wp2_with fail
            clear hg x0 x1 x2 x3 x4 x5 x6
            go_loopg [5, 7] tl (fun i v u w9 => ∃ (j q : Nat), i = tl - j ∧ v = .int .i64 (q : Nat) ∧ u = .int .i64 (j : Nat) ∧ j ≤ tl ∧ q ≤ most + 500000000000000 ∧ (q < most → q = r + 1 + nl + Sx.sizeL (s.t.take j)) ∧ Below L W w9)
            case atStart => exact ⟨0, r + 1 + nl, rfl, by simp, rfl, Nat.zero_le _, by omega, fun _ => by simp [Sx.sizeL], HB.out⟩
            case round =>
              obtain ⟨j, q, hi2, rfl, rfl, hj, hq1, hq2, hwr⟩ := hrel
              have HJ := Lib.hid hi2
              have HQ2 := Lib.hid hq2
              have HWR := Lib.hid hwr
              have j0 : (0 : Int) ≤ (j : Int) := by omega
              have q0 : (0 : Int) ≤ (q : Int) := by omega
              have q1 : (q : Int) ≤ 500000001000000 := by omega
              clear hi2 hq2 hwr
              obtain ⟨hg, x0, x1, x2, x3, x4, x5, x6⟩ := HC.out wr HWR.out
              have hLs : L ≤ wr.heap.size := by have := HWR.out.size; have := HL.out; omega
              by_cases hlt2 : j < tl
              · have hji : (j : Int) < (tl : Int) := by omega
                by_cases hqm : q < most
                · have hqi : (q : Int) < (most : Int) := by omega
                  have hjp : j < s.t.length := by have := HTL.out; omega
                  obtain ⟨g2, off2, An1, cn1, Ae1, ce1, Aq, cq, rfl, hty, hc5⟩ := HTT.out.spot j hjp
                  rw [HL.out] at hc5
                  obtain ⟨hg2, y0, y1, y2, y3, y4⟩ := hc5 wr HWR.out
                  have hst := Sx.size_take hjp
                  have hff := HF3.out _ (List.getElem_mem hjp)
                  obtain ⟨p, hpe⟩ : ∃ p, s.t[j]'hjp = p := ⟨_, rfl⟩
                  rw [hpe] at y0 y1 y2 y3 y4 hty hst hff
                  obtain ⟨d, hd⟩ : ∃ d : Int, (most : Int) - (q : Int) = d := ⟨_, rfl⟩
                  have d0 : 1 ≤ d := by omega
                  have d1 : d ≤ 1000000 := by omega
                  have hre := keepSize _ p (Nat.le_refl _) hff (most - q) _ wr (by omega) (by omega) (IsTy.below (by rw [HL.out]; exact HWR.out) _ _ hty)
                  rw [show ((most - q : Nat) : Int) = d by omega] at hre
                  have HRE := Lib.hid hre
                  have HST2 := Lib.hid hst
                  have HQR := Lib.hid (HQ2.out hqm)
                  clear hre hst hff hpe hty hc5
                  go_wp2_with fail
                  refine HRE.out.mono ?_
                  rintro e w5 ⟨z, rfl, hz1, hz2, hb5⟩
                  have z0 : (0 : Int) ≤ (z : Int) := by omega
                  have hz3 : z + q ≤ most + 500000000000000 := by omega
                  have z1 : (z : Int) ≤ 500000001000000 := by omega
                  have z2 : (q : Int) + (z : Int) ≤ 500000001000000 := by omega
                  have HZ2 := Lib.hid hz2
                  clear hz2
                  go_wp2_with fail
                  go_roundg (tl - (j + 1))
                  case measure => have := HJ.out; omega
                  case rel =>
                    refine ⟨j + 1, q + z, rfl, by simp, by simp, hlt2, by omega, fun hlz => ?_, HWR.out.trans (hb5.mono hLs)⟩
                    rw [HST2.out, HZ2.out (by omega), HQR.out]; omega
                · have hqi : decide ((q : Int) < (most : Int)) = false := by rw [decide_eq_false_iff_not]; omega
                  have hqi2 : ¬ (q : Int) < (most : Int) := by omega
                  go_wp2_with fail
                  go_meet
                  exact ⟨q, rfl, hq1, fun h => absurd h hqm, HWR.out⟩
              · have hji : decide ((j : Int) < (tl : Int)) = false := by rw [decide_eq_false_iff_not]; omega
                have hji2 : ¬ (j : Int) < (tl : Int) := by omega
                have hfull := List.take_of_length_le (show s.t.length ≤ j by have := HTL.out; omega)
                have HFU := Lib.hid hfull
                clear hfull
                go_wp2_with fail
                go_meet
                exact ⟨q, rfl, hq1, fun h => by rw [HQ2.out h, HFU.out], HWR.out⟩
          case rest =>
            obtain ⟨q1, rfl, hq1, hq2, hbq⟩ := hcut
            have HQ2 := Lib.hid hq2
            have HB2 := Lib.hid hbq
            have qa0 : (0 : Int) ≤ (q1 : Int) := by omega
            have qa1 : (q1 : Int) ≤ 500000001000000 := by omega
            clear hq2 hbq hg x0 x1 x2 x3 x4 x5 x6
            go_upto_block 4 with (fail)
            go_cut [5, 7, 8] from 9 to 114 (fun v v7 v8 wx => ∃ q : Nat, v = .int .i64 (q : Nat) ∧ q ≤ most + 500000000000000 ∧ (q < most → q = r + 1 + nl + Sx.sizeL s.t + Sx.sizeXs s.x) ∧ Below L W wx)
            case first =>
              go_wp2_with fail
              go_loopg [5, 8] xl (fun i v u w9 => ∃ (j q : Nat), i = xl - j ∧ v = .int .i64 (q : Nat) ∧ u = .int .i64 (j : Nat) ∧ j ≤ xl ∧ q ≤ most + 500000000000000 ∧ (q < most → q = r + 1 + nl + Sx.sizeL s.t + Sx.sizeXs (s.x.take j)) ∧ Below L W w9)
              case atStart => exact ⟨0, q1, rfl, rfl, rfl, Nat.zero_le _, by omega, fun h => by have := HQ2.out h; simpa [Sx.sizeXs] using this, HB2.out⟩
              case round =>
                obtain ⟨j, q, hi2, rfl, rfl, hj, hq1, hq2, hwr⟩ := hrel
                have HJ := Lib.hid hi2
                have HQ2 := Lib.hid hq2
                have HWR := Lib.hid hwr
                have j0 : (0 : Int) ≤ (j : Int) := by omega
                have q0 : (0 : Int) ≤ (q : Int) := by omega
                have q1 : (q : Int) ≤ 500000001000000 := by omega
                clear hi2 hq2 hwr
                obtain ⟨hg, x0, x1, x2, x3, x4, x5, x6⟩ := HC.out wr HWR.out
                have hLs : L ≤ wr.heap.size := by have := HWR.out.size; have := HL.out; omega
                by_cases hlt2 : j < xl
                · have hji : (j : Int) < (xl : Int) := by omega
                  by_cases hqm : q < most
                  · have hqi : (q : Int) < (most : Int) := by omega
                    have hjp : j < s.x.length := by have := HXL.out; omega
                    obtain ⟨g2, off2, A9, c9, A8, c8, Aq, cq, rfl, hty, hc5⟩ := HTX.out.spot j hjp
                    rw [HL.out] at hc5
                    obtain ⟨hg2, y0, y1, y2, y3, y4, y5, y6⟩ := hc5 wr HWR.out
                    have hst := Sx.sizeX_take hjp
                    have hff := HF5.out _ (List.getElem_mem hjp)
                    obtain ⟨p, hpe⟩ : ∃ p, s.x[j]'hjp = p := ⟨_, rfl⟩
                    rw [hpe] at y0 y1 y2 y3 y4 y5 y6 hty hst hff
                    obtain ⟨d, hd⟩ : ∃ d : Int, (most : Int) - (q : Int) = d := ⟨_, rfl⟩
                    have d0 : 1 ≤ d := by omega
                    have d1 : d ≤ 1000000 := by omega
                    have hre := keepSizeX _ p (Nat.le_refl _) hff (most - q) _ wr (by omega) (by omega) (IsEx.below (by rw [HL.out]; exact HWR.out) _ _ hty)
                    rw [show ((most - q : Nat) : Int) = d by omega] at hre
                    have HRE := Lib.hid hre
                    have HST2 := Lib.hid hst
                    have HQR := Lib.hid (HQ2.out hqm)
                    clear hre hst hff hpe hty hc5
                    go_wp2_with fail
                    refine HRE.out.mono ?_
                    rintro e w5 ⟨z, rfl, hz1, hz2, hb5⟩
                    have z0 : (0 : Int) ≤ (z : Int) := by omega
                    have hz3 : z + q ≤ most + 500000000000000 := by omega
                    have z1 : (z : Int) ≤ 500000001000000 := by omega
                    have z2 : (q : Int) + (z : Int) ≤ 500000001000000 := by omega
                    have HZ2 := Lib.hid hz2
                    clear hz2
                    go_wp2_with fail
                    go_roundg (xl - (j + 1))
                    case measure => have := HJ.out; omega
                    case rel =>
                      refine ⟨j + 1, q + z, rfl, by simp, by simp, hlt2, by omega, fun hlz => ?_, HWR.out.trans (hb5.mono hLs)⟩
                      rw [HST2.out, HZ2.out (by omega), HQR.out]; omega
                  · have hqi : decide ((q : Int) < (most : Int)) = false := by rw [decide_eq_false_iff_not]; omega
                    have hqi2 : ¬ (q : Int) < (most : Int) := by omega
                    go_wp2_with fail
                    go_meet
                    exact ⟨q, rfl, hq1, fun h => absurd h hqm, HWR.out⟩
                · have hji : decide ((j : Int) < (xl : Int)) = false := by rw [decide_eq_false_iff_not]; omega
                  have hji2 : ¬ (j : Int) < (xl : Int) := by omega
                  have hfull := List.take_of_length_le (show s.x.length ≤ j by have := HXL.out; omega)
                  have HFU := Lib.hid hfull
                  clear hfull
                  go_wp2_with fail
                  go_meet
                  exact ⟨q, rfl, hq1, fun h => by rw [HQ2.out h, HFU.out], HWR.out⟩
            case rest =>
              rename_i we
              obtain ⟨q3, rfl, hq3, hq4, hbq⟩ := hcut
              have HQ4 := Lib.hid hq4
              have HB3 := Lib.hid hbq
              have qc0 : (0 : Int) ≤ (q3 : Int) := by omega
              have qc1 : (q3 : Int) ≤ 500000001000000 := by omega
              clear hq4 hbq
              obtain ⟨hg, x0, x1, x2, x3, x4, x5, x6⟩ := HC.out wc HB3.out
              go_upto_if 89 with (fail)
              go_cut [5, 7, 8] from 9 to 114 (fun v v7 v8 wx => ∃ q : Nat, v = .int .i64 (q : Nat) ∧ q ≤ most + 500000000000000 ∧ (q < most → q = r + 1 + nl + Sx.sizeL s.t + Sx.sizeXs s.x + Sx.sizeSs s.body) ∧ Below L W wx)
              case first =>
                have hLs : L ≤ wc.heap.size := by have := HB3.out.size; have := HL.out; omega
                by_cases hqm : q3 < most
                · have hqi : (q3 : Int) < (most : Int) := by omega
                  obtain ⟨d, hd⟩ : ∃ d : Int, (most : Int) - (q3 : Int) = d := ⟨_, rfl⟩
                  have d0 : 1 ≤ d := by omega
                  have d1 : d ≤ 1000000 := by omega
                  have hre := HIH.out s.body (by have := HSP.out; have := HSM.out; have := HN.out; omega) HF6.out (by rw [HBL.out]; exact hbl2) (most - q3) _ wc (by omega) (by omega) (HTB.out.below (by rw [HL.out]; exact HB3.out))
                  rw [show ((most - q3 : Nat) : Int) = d by omega] at hre
                  have HRE := Lib.hid hre
                  have HQR := Lib.hid (HQ4.out hqm)
                  clear hre
                  go_wp2_with fail
                  refine HRE.out.mono ?_
                  rintro e w5 ⟨z, rfl, hz1, hz2, hb5⟩
                  have z0 : (0 : Int) ≤ (z : Int) := by omega
                  have hz3 : z + q3 ≤ most + 500000000000000 := by omega
                  have z1 : (z : Int) ≤ 500000001000000 := by omega
                  have z2 : (q3 : Int) + (z : Int) ≤ 500000001000000 := by omega
                  have HZ2 := Lib.hid hz2
                  clear hz2
                  go_wp2_with fail
                  go_meet
                  exact ⟨q3 + z, by simp, by omega, fun h => by rw [HZ2.out (by omega), HQR.out], HB3.out.trans (hb5.mono hLs)⟩
                · have hqi : decide ((q3 : Int) < (most : Int)) = false := by rw [decide_eq_false_iff_not]; omega
                  have hqi2 : ¬ (q3 : Int) < (most : Int) := by omega
                  go_wp2_with fail
                  go_meet
                  exact ⟨q3, rfl, hq3, fun h => absurd h hqm, HB3.out⟩
              case rest =>
                obtain ⟨q5, rfl, hq5, hq6, hbq⟩ := hcut
                have HQ6 := Lib.hid hq6
                have HB4 := Lib.hid hbq
                have qe0 : (0 : Int) ≤ (q5 : Int) := by omega
                have qe1 : (q5 : Int) ≤ 500000001000000 := by omega
                clear hq6 hbq hg x0 x1 x2 x3 x4 x5 x6
                obtain ⟨hg, x0, x1, x2, x3, x4, x5, x6⟩ := HC.out wc HB4.out
                have hLs : L ≤ wc.heap.size := by have := HB4.out.size; have := HL.out; omega
                by_cases hqm : q5 < most
                · have hqi : (q5 : Int) < (most : Int) := by omega
                  obtain ⟨d, hd⟩ : ∃ d : Int, (most : Int) - (q5 : Int) = d := ⟨_, rfl⟩
                  have d0 : 1 ≤ d := by omega
                  have d1 : d ≤ 1000000 := by omega
                  have hre := HIH.out s.els (by have := HSP.out; have := HSM.out; have := HN.out; omega) HF7.out (by rw [HEL.out]; exact hel2) (most - q5) _ wc (by omega) (by omega) (HTE.out.below (by rw [HL.out]; exact HB4.out))
                  rw [show ((most - q5 : Nat) : Int) = d by omega] at hre
                  have HRE := Lib.hid hre
                  have HQR := Lib.hid (HQ6.out hqm)
                  clear hre
                  go_wp2_with fail
                  refine HRE.out.mono ?_
                  rintro e w5 ⟨z, rfl, hz1, hz2, hb5⟩
                  have z0 : (0 : Int) ≤ (z : Int) := by omega
                  have hz3 : z + q5 ≤ most + 500000000000000 := by omega
                  have z1 : (z : Int) ≤ 500000001000000 := by omega
                  have z2 : (q5 : Int) + (z : Int) ≤ 500000001000000 := by omega
                  have HZ2 := Lib.hid hz2
                  clear hz2
                  go_wp2_with fail
                  go_roundg (k - (m + 1))
                  case measure => have := HI.out; omega
                  case rel =>
                    refine ⟨m + 1, q5 + z, rfl, by simp, by simp, hlt, by omega, fun h => ?_, HB4.out.trans (hb5.mono hLs)⟩
                    rw [HZ2.out (by omega), HQR.out, HST.out, ← HRR.out, HSP.out]; omega
                · have hqi : decide ((q5 : Int) < (most : Int)) = false := by rw [decide_eq_false_iff_not]; omega
                  have hqi2 : ¬ (q5 : Int) < (most : Int) := by omega
                  go_wp2_with fail
                  go_roundg (k - (m + 1))
                  case measure => have := HI.out; omega
                  case rel => exact ⟨m + 1, q5, rfl, rfl, by simp, hlt, hq5, fun h => absurd h hqm, HB4.out⟩
        · have hri : decide ((r : Int) < (most : Int)) = false := by rw [decide_eq_false_iff_not]; omega
          have hri2 : ¬ (r : Int) < (most : Int) := by omega
          go_wp2_with fail
          go_ret
          exact ⟨r, rfl, hr1, fun h => absurd h hrm, by rw [HL.out]; exact HB.out⟩
      · have hmi : decide ((m : Int) < (k : Int)) = false := by rw [decide_eq_false_iff_not]; omega
        have hmi2 : ¬ (m : Int) < (k : Int) := by omega
        have hfull := List.take_of_length_le (show l.length ≤ m by have := HK.out; omega)
        have HFU := Lib.hid hfull
        clear hfull
        go_wp2_with fail
        go_ret
        refine ⟨r, rfl, hr1, fun h => ?_, by rw [HL.out]; exact HB.out⟩
        rw [HR2.out h, HFU.out]

end Go.Proofs.YtdncljdfmdgdaaaGreatDoor
