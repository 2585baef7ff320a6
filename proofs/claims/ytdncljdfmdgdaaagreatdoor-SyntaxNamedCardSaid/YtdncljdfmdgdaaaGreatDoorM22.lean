/-
  Types and expressions made: rows newly laid; the walks of coillaw2's small helpers.
  Small helpers of the laws.
  A law's two arguments that are types: their boxes, and what every call answers of them.
  A region that draws its order, by one state for all orders: each operation is shown once.
  A region that draws its order: each operation is shown once, over the facts of those that it waits for.
  Rows of texts that a region builds, whatever the order.
  A region that draws its order and builds a row of texts, over facts.
  A region that draws its order, over facts, with a state of the world that stays.
-/
import Derived.Test.YtdncljdfmdgdaaaGreatDoorM21
import Derived.Test.YtdncljdfmdgdaaaGreatDoorM8
import Derived.Test.YtdncljdfmdgdaaaGreatDoorM19
import Derived.Test.YtdncljdfmdgdaaaGreatDoorM13
import Derived.Test.YtdncljdfmdgdaaaGreatDoorM14
import Derived.RegionTactic
import Derived.Below
import Derived.Lib.Hide
import Derived.Test.YtdncljdfmdgdaaaGreatDoorM11
namespace Go.Proofs.YtdncljdfmdgdaaaGreatDoor
open Go.RowKit Go.Shelf
set_option linter.unusedSimpArgs false
set_option linter.unusedVariables false

theorem StrRow.nil (w : World) (A : Option Addr) (c : Nat) : StrRow w (.slice A 0 c) [] := ⟨A, c, rfl, fun i h => by simp at h⟩
theorem BoolRow.nil (w : World) (A : Option Addr) (c : Nat) : BoolRow w (.slice A 0 c) [] := ⟨A, c, rfl, fun i h => by simp at h⟩
theorem TyRow.nil (w : World) (A : Option Addr) (c : Nat) : TyRow w (.slice A 0 c) [] := ⟨A, c, rfl, Nat.zero_le _, by rw [IsTys]; trivial⟩
theorem ExRow.nil (w : World) (A : Option Addr) (c : Nat) : ExRow w (.slice A 0 c) [] := ⟨A, c, rfl, Nat.zero_le _, by rw [IsExs]; trivial⟩
theorem StRow.nil (w : World) (A : Option Addr) (c : Nat) : StRow w (.slice A 0 c) [] := ⟨A, c, rfl, Nat.zero_le _, by rw [IsSts]; trivial⟩
theorem StrRow.new (w : World) (l : List Lx.Bytes) : StrRow (w.alloc (.cells (strsV l).toArray 9)) (.slice (some ⟨w.heap.size, 0, none⟩) l.length l.length) l :=
  ⟨_, _, rfl, fun i h => ⟨_, 0, rfl, by rw [Nat.zero_add]; exact (Row.new w l).at h⟩⟩
theorem BoolRow.new (w : World) (l : List Bool) : BoolRow (w.alloc (.cells (l.map Value.bool).toArray 4)) (.slice (some ⟨w.heap.size, 0, none⟩) l.length l.length) l :=
  ⟨_, _, rfl, fun i h => ⟨_, 0, rfl, by rw [Nat.zero_add, cell_of (heap_alloc_new w _)]; simp [h]⟩⟩
theorem IsTy.made {w : World} {k : Int} {nm : Lx.Bytes} {vn ve vp : Value} {ns : List Lx.Bytes} {es : List Bool} {ps : List Sx.Ty} (h1 : StrRow w vn ns) (h2 : BoolRow w ve es) (h3 : TyRow w vp ps) :
    IsTy w (.agg #[.int .i64 k, .string ⟨nm.toArray⟩, vn, ve, vp]) (.mk k nm ns es ps) := by
  obtain ⟨A, c, rfl, hc, hl⟩ := h3
  rw [IsTy]
  exact ⟨vn, ve, A, c, rfl, h1, h2, hc, hl⟩
theorem TyRow.new1 {w : World} {v0 v1 v2 v3 v4 : Value} {t : Sx.Ty} (h : IsTy w (.agg #[v0, v1, v2, v3, v4]) t) :
    TyRow (w.alloc (.cells #[v0, v1, v2, v3, v4] 26)) (.slice (some ⟨w.heap.size, 0, none⟩) 1 1) [t] := by
  have hb := heap_alloc_new w (.cells #[v0, v1, v2, v3, v4] 26)
  refine ⟨_, 1, rfl, Nat.le_refl _, ?_⟩
  rw [IsTys, IsTys]
  exact ⟨⟨_, 0, v0, v1, v2, v3, v4, rfl, cell_of hb 0, cell_of hb 1, cell_of hb 2, cell_of hb 3, cell_of hb 4, IsTy.below (grown_below (World.grownBy_alloc w _ none)) _ _ h⟩, trivial⟩
theorem TyRow.new2 {w : World} {v0 v1 v2 v3 v4 u0 u1 u2 u3 u4 : Value} {t s : Sx.Ty} (h : IsTy w (.agg #[v0, v1, v2, v3, v4]) t) (h' : IsTy w (.agg #[u0, u1, u2, u3, u4]) s) :
    TyRow (w.alloc (.cells #[v0, v1, v2, v3, v4, u0, u1, u2, u3, u4] 26)) (.slice (some ⟨w.heap.size, 0, none⟩) 2 2) [t, s] := by
  have hb := heap_alloc_new w (.cells #[v0, v1, v2, v3, v4, u0, u1, u2, u3, u4] 26)
  refine ⟨_, 2, rfl, Nat.le_refl _, ?_⟩
  rw [IsTys, IsTys, IsTys]
  exact ⟨⟨_, 0, v0, v1, v2, v3, v4, rfl, cell_of hb 0, cell_of hb 1, cell_of hb 2, cell_of hb 3, cell_of hb 4, IsTy.below (grown_below (World.grownBy_alloc w _ none)) _ _ h⟩,
    ⟨_, 0, u0, u1, u2, u3, u4, rfl, cell_of hb 5, cell_of hb 6, cell_of hb 7, cell_of hb 8, cell_of hb 9, IsTy.below (grown_below (World.grownBy_alloc w _ none)) _ _ h'⟩, trivial⟩
theorem IsEx.made {w : World} {pos k n : Int} {s : Lx.Bytes} {vt vn vp : Value} {t : List Sx.Ty} {ns : List Lx.Bytes} {ps : List Sx.Ex} (h1 : TyRow w vt t) (h2 : StrRow w vn ns) (h3 : ExRow w vp ps) (hn0 : -9223372036854775808 ≤ n) (hn1 : n ≤ 9223372036854775807) :
    IsEx w (.agg #[.int .i64 pos, .int .i64 k, .int .i64 n, .string ⟨s.toArray⟩, vt, vn, vp]) (.mk pos k n s t ns ps) := by
  obtain ⟨A, c, rfl, hc, hl⟩ := h3
  rw [IsEx]
  exact ⟨vt, vn, A, c, rfl, h1, h2, hc, hl, hn0, hn1⟩
theorem ExRow.new1 {w : World} {v0 v1 v2 v3 v4 v5 v6 : Value} {t : Sx.Ex} (h : IsEx w (.agg #[v0, v1, v2, v3, v4, v5, v6]) t) :
    ExRow (w.alloc (.cells #[v0, v1, v2, v3, v4, v5, v6] 39)) (.slice (some ⟨w.heap.size, 0, none⟩) 1 1) [t] := by
  have hb := heap_alloc_new w (.cells #[v0, v1, v2, v3, v4, v5, v6] 39)
  refine ⟨_, 1, rfl, Nat.le_refl _, ?_⟩
  rw [IsExs, IsExs]
  exact ⟨⟨_, 0, v0, v1, v2, v3, v4, v5, v6, rfl, cell_of hb 0, cell_of hb 1, cell_of hb 2, cell_of hb 3, cell_of hb 4, cell_of hb 5, cell_of hb 6, IsEx.below (grown_below (World.grownBy_alloc w _ none)) _ _ h⟩, trivial⟩
theorem ExRow.new2 {w : World} {v0 v1 v2 v3 v4 v5 v6 u0 u1 u2 u3 u4 u5 u6 : Value} {t s : Sx.Ex} (h : IsEx w (.agg #[v0, v1, v2, v3, v4, v5, v6]) t) (h' : IsEx w (.agg #[u0, u1, u2, u3, u4, u5, u6]) s) :
    ExRow (w.alloc (.cells #[v0, v1, v2, v3, v4, v5, v6, u0, u1, u2, u3, u4, u5, u6] 39)) (.slice (some ⟨w.heap.size, 0, none⟩) 2 2) [t, s] := by
  have hb := heap_alloc_new w (.cells #[v0, v1, v2, v3, v4, v5, v6, u0, u1, u2, u3, u4, u5, u6] 39)
  refine ⟨_, 2, rfl, Nat.le_refl _, ?_⟩
  rw [IsExs, IsExs, IsExs]
  exact ⟨⟨_, 0, v0, v1, v2, v3, v4, v5, v6, rfl, cell_of hb 0, cell_of hb 1, cell_of hb 2, cell_of hb 3, cell_of hb 4, cell_of hb 5, cell_of hb 6, IsEx.below (grown_below (World.grownBy_alloc w _ none)) _ _ h⟩,
    ⟨_, 0, u0, u1, u2, u3, u4, u5, u6, rfl, cell_of hb 7, cell_of hb 8, cell_of hb 9, cell_of hb 10, cell_of hb 11, cell_of hb 12, cell_of hb 13, IsEx.below (grown_below (World.grownBy_alloc w _ none)) _ _ h'⟩, trivial⟩

set_option maxHeartbeats 2000000 in
theorem lawTy (k : Int) (A : Option Addr) (n c : Nat) (w : World) : Calls Tryz.prog 12 #[.int .i64 k, .slice A n c] w fun e w' => e = .returned (.agg #[.int .i64 k, .string ⟨#[]⟩, .slice none 0 0, .slice none 0 0, .slice A n c]) ∧ Below w.heap.size w w' := by
  go_enter Tryz.func12, Tryz.ntmps12
  go_wp2
  refine bodyPost_ret (v := .agg #[.int .i64 k, .string ⟨#[]⟩, .slice none 0 0, .slice none 0 0, .slice A n c]) (by simp [results, Tryz.results12, go_sem]) rfl ⟨rfl, ?_⟩
  exact (Below.refl _ _).alloc (Nat.le_refl _) _
set_option maxHeartbeats 2000000 in
theorem lawNamed (s : ByteArray) (w : World) : Calls Tryz.prog 13 #[.string s] w fun e w' => e = .returned (.agg #[.int .i64 4, .string s, .slice none 0 0, .slice none 0 0, .slice none 0 0]) ∧ Below w.heap.size w w' := by
  go_enter Tryz.func13, Tryz.ntmps13
  go_wp2
  refine bodyPost_ret (v := .agg #[.int .i64 4, .string s, .slice none 0 0, .slice none 0 0, .slice none 0 0]) (by simp [results, Tryz.results13, go_sem]) rfl ⟨rfl, ?_⟩
  exact (Below.refl _ _).alloc (Nat.le_refl _) _
set_option maxHeartbeats 2000000 in
theorem lawNum (n : Int) (w : World) : Calls Tryz.prog 22 #[.int .i64 n] w fun e w' => e = .returned (.agg #[.int .i64 0, .int .i64 1, .int .i64 n, .string ⟨#[]⟩, .slice none 0 0, .slice none 0 0, .slice none 0 0]) ∧ Below w.heap.size w w' := by
  go_enter Tryz.func22, Tryz.ntmps22
  go_wp2
  refine bodyPost_ret (v := .agg #[.int .i64 0, .int .i64 1, .int .i64 n, .string ⟨#[]⟩, .slice none 0 0, .slice none 0 0, .slice none 0 0]) (by simp [results, Tryz.results22, go_sem]) rfl ⟨rfl, ?_⟩
  exact (Below.refl _ _).alloc (Nat.le_refl _) _
set_option maxHeartbeats 2000000 in
theorem lawVariable (s : ByteArray) (w : World) : Calls Tryz.prog 19 #[.string s] w fun e w' => e = .returned (.agg #[.int .i64 0, .int .i64 4, .int .i64 0, .string s, .slice none 0 0, .slice none 0 0, .slice none 0 0]) ∧ Below w.heap.size w w' := by
  go_enter Tryz.func19, Tryz.ntmps19
  go_wp2
  refine bodyPost_ret (v := .agg #[.int .i64 0, .int .i64 4, .int .i64 0, .string s, .slice none 0 0, .slice none 0 0, .slice none 0 0]) (by simp [results, Tryz.results19, go_sem]) rfl ⟨rfl, ?_⟩
  exact (Below.refl _ _).alloc (Nat.le_refl _) _

end Go.Proofs.YtdncljdfmdgdaaaGreatDoor

namespace Go.Proofs.YtdncljdfmdgdaaaGreatDoor
open Go.RowKit Go.Shelf
set_option linter.unusedSimpArgs false
set_option linter.unusedVariables false

theorem ownNew (w : World) (base : Nat) (c : UInt8) (hb : base ≤ w.heap.size) : OwnB (w.alloc (.cells #[.int .u8 (c.toNat : Int)] 5)) base (.slice (some ⟨w.heap.size, 0, none⟩) 1 1) [c] :=
  ⟨rfl, .inr ⟨w.heap.size, 1, #[.int .u8 (c.toNat : Int)], rfl, hb, heap_alloc_new w _, Nat.le_refl _, by unfold maxLen; omega, rfl, rfl⟩⟩

theorem LW.trans {w W X : World} (h : LW w W) (h' : LW W X) : LW w X := ⟨h.b.trans (h'.b.mono h.b.size), h'.g, h'.n⟩
theorem LW.self {w W : World} (h : LW w W) : LW W W := LW.refl h.g h.n
/-- A text that is cut without a fault. -/
theorem lwTokensOk {w W : World} (h : LW w W) (s : ByteArray) (hs : s.size ≤ 140737488351232) {ts : List Lx.Tok} (hT : Lx.toks s.data.toList = (ts, none)) :
    Calls Tryz.prog 47 #[.string s] W fun e W' => ∃ v, e = .returned (.tuple #[v, .nilIface]) ∧ LW w W' ∧ ToksIn W' v ts := by
  refine (lwTokens h s hs).mono ?_
  rw [hT]
  rintro e W' ⟨h1, h2, h3, v, rfl, hr⟩
  exact ⟨v, rfl, h1, row_toks (w' := W') hr⟩
/-- .. with a fault. -/
theorem lwTokensBad {w W : World} (h : LW w W) (s : ByteArray) (hs : s.size ≤ 140737488351232) {ts : List Lx.Tok} {y x : Nat} (hT : Lx.toks s.data.toList = (ts, some (y, x))) :
    Calls Tryz.prog 47 #[.string s] W fun e W' => ∃ g, e = .returned (.tuple #[.slice none 0 0, .iface 130 (.pointer (some ⟨g, 0, none⟩))]) ∧ LW w W' ∧ IsRef W' g x y := by
  refine (lwTokens h s hs).mono ?_
  rw [hT]
  rintro e W' ⟨h1, h2, h3, g, rfl, hr, _⟩
  exact ⟨g, rfl, h1, hr⟩

end Go.Proofs.YtdncljdfmdgdaaaGreatDoor

namespace Go.Proofs.YtdncljdfmdgdaaaGreatDoor
open Go.RowKit Go.Shelf
set_option linter.unusedSimpArgs false
set_option linter.unusedVariables false

/-- What is asked of SyntaxRuns. -/
def RunsOk : Prop := ∀ (w0 : World), GL w0 → NG ≤ w0.heap.size → Calls Tryz.prog 3 #[] w0 fun e w' => e = .returned (.bool true) ∧ LW w0 w'
theorem RunsOk.at (h : RunsOk) {w X : World} (hX : LW w X) : Calls Tryz.prog 3 #[] X fun e w' => e = .returned (.bool true) ∧ LW w w' :=
  (h X hX.g hX.n).mono fun e w' ⟨h1, h2⟩ => ⟨h1, hX.go h2.b⟩

/-- The cells of a type's box. -/
def boxT (a : Sx.Ty) (A1 : Option Addr) (c1 : Nat) (A2 : Option Addr) (c2 : Nat) (A3 : Option Addr) (c3 : Nat) : Array Value :=
  #[.int .i64 a.kind, .string ⟨a.name.toArray⟩, .slice A1 a.names.length c1, .slice A2 a.embeds.length c2, .slice A3 a.parts.length c3]
/-- Two boxes, the first ones that the law has made. -/
structure TwoSt (w : World) (c0 c1 : Array Value) (X : World) : Prop where
  lw : LW w X
  k0 : X.heap[w.heap.size]? = some (.cells c0 26 (0, 0))
  k1 : X.heap[w.heap.size + 1]? = some (.cells c1 26 (0, 0))
theorem TwoSt.go {w X X' : World} {c0 c1 : Array Value} (h : TwoSt w c0 c1 X) (hb : Below X.heap.size X X') : TwoSt w c0 c1 X' :=
  ⟨h.lw.go hb, (hb.block _ (lt_of_block h.k0)).trans h.k0, (hb.block _ (lt_of_block h.k1)).trans h.k1⟩
theorem TwoSt.lt {w X : World} {c0 c1 : Array Value} (h : TwoSt w c0 c1 X) : w.heap.size < X.heap.size ∧ w.heap.size + 1 < X.heap.size := ⟨lt_of_block h.k0, lt_of_block h.k1⟩
theorem TwoSt.first {w : World} (hG : GL w) (hN : NG ≤ w.heap.size) (c0 c1 : Array Value) : TwoSt w c0 c1 ((w.alloc (.cells c0 26)).alloc (.cells c1 26)) := by
  refine ⟨((LW.refl hG hN).alloc _).alloc _, heap_alloc (heap_alloc_new w _) _, ?_⟩
  have := heap_alloc_new (w.alloc (.cells c0 26)) (.cells c1 26)
  rw [show (w.alloc (.cells c0 26)).heap.size = w.heap.size + 1 by simp] at this
  exact this
theorem ten_cells {w X : World} {a b : Sx.Ty} {A1 A2 A3 B1 B2 B3 : Option Addr} {c1 c2 c3 d1 d2 d3 L : Nat} (h : TwoSt w (boxT a A1 c1 A2 c2 A3 c3) (boxT b B1 d1 B2 d2 B3 d3) X) (hL : w.heap.size = L) :
    (X.cell? ⟨L, 0, none⟩ = some (.int .i64 a.kind) ∧ X.cell? ⟨L, 1, none⟩ = some (.string ⟨a.name.toArray⟩) ∧ X.cell? ⟨L, 2, none⟩ = some (.slice A1 a.names.length c1) ∧ X.cell? ⟨L, 3, none⟩ = some (.slice A2 a.embeds.length c2) ∧ X.cell? ⟨L, 4, none⟩ = some (.slice A3 a.parts.length c3)) ∧
    (X.cell? ⟨L + 1, 0, none⟩ = some (.int .i64 b.kind) ∧ X.cell? ⟨L + 1, 1, none⟩ = some (.string ⟨b.name.toArray⟩) ∧ X.cell? ⟨L + 1, 2, none⟩ = some (.slice B1 b.names.length d1) ∧ X.cell? ⟨L + 1, 3, none⟩ = some (.slice B2 b.embeds.length d2) ∧ X.cell? ⟨L + 1, 4, none⟩ = some (.slice B3 b.parts.length d3)) ∧
    L < X.heap.size ∧ L + 1 < X.heap.size := by
  subst hL
  exact ⟨five_cells h.k0, five_cells h.k1, h.lt.1, h.lt.2⟩

end Go.Proofs.YtdncljdfmdgdaaaGreatDoor

namespace Go.Proofs.YtdncljdfmdgdaaaGreatDoor
open Go.RowKit

section
variable {P : Program} {ops : Array Oper} {Q : Exit → Act → World → Prop} {md : Region.Mode}

/-- The operations that an operation waits for are done. -/
def Waited (md : Region.Mode) (o : Oper) (listed : Array Bool) : Prop := (o.after.all fun e => !Region.binds md e || listed.getD e.on false) = true

/-- Each edge leads to an operation that stands earlier. -/
def backward (ops : Array Oper) : Bool := (List.range ops.size).all fun i => ((ops[i]?).map (·.after.all fun e => e.on < i)).getD true

theorem ready_iff {listed : Array Bool} {i : Nat} (hs : listed.size = ops.size) : i ∈ Region.ready md ops listed ↔ ∃ o, ops[i]? = some o ∧ listed[i]? = some false ∧ Waited md o listed := by
  unfold Region.ready Waited
  simp only [List.mem_filter, List.mem_range, Bool.and_eq_true, Bool.not_eq_true']
  constructor
  · rintro ⟨h1, h2, h3⟩
    obtain ⟨o, ho⟩ : ∃ o, ops[i]? = some o := ⟨_, Array.getElem?_eq_getElem h1⟩
    refine ⟨o, ho, ?_, ?_⟩
    · have hl : i < listed.size := by omega
      rw [Array.getElem?_eq_getElem hl]
      simp only [Array.getD, hl, dif_pos] at h2
      exact congrArg some h2
    · rw [ho] at h3
      simpa using h3
  · rintro ⟨o, ho, h2, h3⟩
    have h1 : i < ops.size := (Array.getElem?_eq_some_iff.1 ho).1
    refine ⟨h1, ?_, ?_⟩
    · obtain ⟨hl, e⟩ := Array.getElem?_eq_some_iff.1 h2
      simp only [Array.getD, hl, dif_pos]
      exact e
    · rw [ho]
      simpa using h3

/-- Some operation that is not done waits for none. -/
theorem ready_nil {listed : Array Bool} (hb : backward ops = true) (hs : listed.size = ops.size) (h : Region.ready md ops listed = []) : ∀ n i, i < n → i < ops.size → listed[i]? = some true := by
  intro n
  induction n with
  | zero => intro i hi; omega
  | succ n ih =>
    intro i hi hl
    by_cases hin : i < n
    · exact ih i hin hl
    · obtain rfl : i = n := by omega
      have hli : i < listed.size := by omega
      cases hc : listed[i]'hli with
      | true => rw [Array.getElem?_eq_getElem hli, hc]
      | false =>
        obtain ⟨o, ho⟩ : ∃ o, ops[i]? = some o := ⟨_, Array.getElem?_eq_getElem hl⟩
        have hmem : i ∈ Region.ready md ops listed := by
          rw [ready_iff hs]
          refine ⟨o, ho, by rw [Array.getElem?_eq_getElem hli, hc], ?_⟩
          unfold Waited
          rw [Array.all_eq_true']
          intro e he
          have hlt : e.on < i := by
            unfold backward at hb
            rw [List.all_eq_true] at hb
            have := hb i (List.mem_range.2 hl)
            rw [ho] at this
            simp only [Option.map_some, Option.getD_some] at this
            rw [Array.all_eq_true'] at this
            simpa using this e he
          have := ih e.on (by omega) (by omega)
          rw [Bool.or_eq_true]
          right
          obtain ⟨h1, h2⟩ := Array.getElem?_eq_some_iff.1 this
          simp only [Array.getD, h1, dif_pos]
          exact h2
        rw [h] at hmem
        cases hmem

def undone (l : Array Bool) : Nat := l.toList.countP (· == false)
theorem undone_set {l : Array Bool} {i : Nat} (h : l[i]? = some false) : undone (l.setIfInBounds i true) + 1 = undone l := by
  unfold undone
  obtain ⟨hi, he⟩ := Array.getElem?_eq_some_iff.1 h
  have hp : 0 < l.toList.countP (· == false) := List.countP_pos_iff.2 ⟨false, by rw [← he]; exact Array.getElem_mem_toList hi, rfl⟩
  rw [Array.toList_setIfInBounds, List.countP_set (by simpa using hi)]
  simp only [Array.getElem_toList, he, beq_self_eq_true, if_true, show (true == false) = false from rfl, Bool.false_eq_true, if_false]
  omega
theorem undone_all {l : Array Bool} (h : ∀ i, i < l.size → l[i]? = some true) : l = Array.replicate l.size true := by
  apply Array.ext (by simp)
  intro i h1 h2
  have := h i h1
  rw [Array.getElem?_eq_getElem h1] at this
  injection this with this
  rw [this]
  simp

/-- One state for all orders. -/
theorem wpAny_state (J : Array Bool → Act → World → Prop) (hb : backward ops = true)
    (hstep : ∀ (i : Nat) (o : Oper), ops[i]? = some o → ∀ (listed : Array Bool) (a : Act) (w : World), listed[i]? = some false → Waited md o listed → J listed a w →
      wpOp P ops Q i (J (listed.setIfInBounds i true)) a w)
    (hdone : ∀ a w, J (Array.replicate ops.size true) a w → Q .normal a w) :
    ∀ (fuel : Nat) (listed : Array Bool) (a : Act) (w : World), listed.size = ops.size → undone listed ≤ fuel → J listed a w → wpAny P md ops Q fuel listed a w := by
  intro fuel
  induction fuel with
  | zero =>
    intro listed a w hs hu hJ
    have hall : ∀ i, i < listed.size → listed[i]? = some true := by
      intro i hi
      cases hc : listed[i]'hi with
      | true => rw [Array.getElem?_eq_getElem hi, hc]
      | false =>
        exfalso
        have : 0 < undone listed := List.countP_pos_iff.2 ⟨false, by rw [← hc]; exact Array.getElem_mem_toList hi, rfl⟩
        omega
    refine ⟨?_, hdone a w (by rw [← hs, ← undone_all hall]; exact hJ)⟩
    rw [List.eq_nil_iff_forall_not_mem]
    intro i hi
    obtain ⟨o, ho, hf, -⟩ := (ready_iff hs).1 hi
    obtain ⟨hl, -⟩ := Array.getElem?_eq_some_iff.1 hf
    rw [hall i hl] at hf
    cases hf
  | succ fuel ih =>
    intro listed a w hs hu hJ
    refine ⟨fun h => ?_, fun i hi => ?_⟩
    · refine hdone a w ?_
      rw [← hs, ← undone_all fun i hi => ready_nil hb hs h (i + 1) i (by omega) (by omega)]
      exact hJ
    · obtain ⟨o, ho, hf, hw⟩ := (ready_iff hs).1 hi
      refine wpOp_mono (fun a' w' h => ih _ a' w' (by simpa using hs) ?_ h) (hstep i o ho listed a w hf hw hJ)
      have := undone_set hf
      omega

/-- Each of a list of operations, from a number on, keeps the state. -/
def Each (P : Program) (ops : Array Oper) (md : Region.Mode) (Q : Exit → Act → World → Prop) (J : Array Bool → Act → World → Prop) (k : Nat) (l : List Oper) : Prop :=
  ∀ (j : Nat) (o : Oper), l[j]? = some o → ∀ (listed : Array Bool) (a : Act) (w : World), listed[k + j]? = some false → Waited md o listed → J listed a w →
    ∀ K : Act → World → Prop, Hid (∀ a w, J (listed.setIfInBounds (k + j) true) a w → K a w) → if Region.wanted o (yielded ops a.tmps) = true then Oper.wp P o a w K Q else K (a.put o.dst undef) w
theorem Each.nil {J : Array Bool → Act → World → Prop} {k : Nat} : Each P ops md Q J k [] := fun j o h => by simp at h
theorem Each.cons {J : Array Bool → Act → World → Prop} {k : Nat} {o : Oper} {l : List Oper}
    (h : ∀ (listed : Array Bool) (a : Act) (w : World), listed[k]? = some false → Waited md o listed → J listed a w →
      ∀ K : Act → World → Prop, Hid (∀ a w, J (listed.setIfInBounds k true) a w → K a w) → if Region.wanted o (yielded ops a.tmps) = true then Oper.wp P o a w K Q else K (a.put o.dst undef) w)
    (hl : Each P ops md Q J (k + 1) l) : Each P ops md Q J k (o :: l) := by
  intro j o' hj
  cases j with
  | zero =>
    simp only [List.getElem?_cons_zero, Option.some.injEq] at hj
    subst hj
    exact h
  | succ j =>
    simp only [List.getElem?_cons_succ] at hj
    have := hl j o' hj
    rw [show k + 1 + j = k + (j + 1) by omega] at this
    exact this
theorem wp_region_state {id : Nat} {a : Act} {w : World} (J : Act → Array Bool → Act → World → Prop) (hm : P.follows .mixedOrders = true) (hb : backward ops = true)
    (h0 : J a (Array.replicate ops.size false) a w.drew) (hstep : Each P ops .any Q (J a) 0 ops.toList) (hdone : ∀ a' w', J a (Array.replicate ops.size true) a' w' → Q .normal a' w') :
    (Code.region id ops true).wp P Q a w := by
  refine wp_region_any hm (wpAny_state (J a) hb ?_ hdone ops.size _ a w.drew (by simp) ?_ h0)
  · intro i o ho listed a' w' hf hw hJ
    refine wpOp_step ho fun K hK => ?_
    have := hstep i o (by rw [Array.getElem?_toList]; exact ho) listed a' w' (by rw [Nat.zero_add]; exact hf) hw hJ K (by rw [Nat.zero_add]; exact hK)
    exact this
  · unfold undone
    have := List.countP_le_length (l := (Array.replicate ops.size false).toList) (p := (· == false))
    simpa using this

/-- The first i operations are done. -/
def firstDone (n i : Nat) : Array Bool := ((List.range n).map fun j => decide (j < i)).toArray
theorem firstDone_at {n i j : Nat} (h : j < n) : (firstDone n i)[j]? = some (decide (j < i)) := by
  unfold firstDone
  simp [h]
theorem firstDone_zero (n : Nat) : firstDone n 0 = Array.replicate n false := by
  apply Array.ext (by simp [firstDone])
  intro i h1 h2
  simp [firstDone]
theorem firstDone_all (n : Nat) : firstDone n n = Array.replicate n true := by
  apply Array.ext (by simp [firstDone])
  intro i h1 h2
  have : i < n := by simpa using h2
  simp [firstDone, this]
theorem firstDone_set {n i : Nat} : (firstDone n i).setIfInBounds i true = firstDone n (i + 1) := by
  apply Array.ext (by simp [firstDone])
  intro j h1 h2
  have hj : j < n := by simpa [firstDone] using h2
  by_cases hij : i = j
  · subst hij
    rw [Array.getElem_setIfInBounds_self]
    simp [firstDone]
  · rw [Array.getElem_setIfInBounds_ne]
    · simp [firstDone]
      omega
    · simpa [firstDone] using hj
    · exact hij
theorem wpOps_state (J : Array Bool → Act → World → Prop) (hb : backward ops = true)
    (hstep : ∀ (i : Nat) (o : Oper), ops[i]? = some o → ∀ (listed : Array Bool) (a : Act) (w : World), listed[i]? = some false → Waited .any o listed → J listed a w → wpOp P ops Q i (J (listed.setIfInBounds i true)) a w)
    (hdone : ∀ a w, J (Array.replicate ops.size true) a w → Q .normal a w) :
    ∀ (n i : Nat) (a : Act) (w : World), i + n = ops.size → J (firstDone ops.size i) a w → wpOps P ops Q (List.range' i n) a w := by
  intro n
  induction n with
  | zero =>
    intro i a w hi hJ
    rw [Nat.add_zero] at hi
    subst hi
    rw [firstDone_all] at hJ
    exact hdone a w hJ
  | succ n ih =>
    intro i a w hi hJ
    rw [List.range'_succ, wpOps_cons]
    have hlt : i < ops.size := by omega
    obtain ⟨o, ho⟩ : ∃ o, ops[i]? = some o := ⟨_, Array.getElem?_eq_getElem hlt⟩
    refine wpOp_mono (fun a' w' h => ih (i + 1) a' w' (by omega) h) ?_
    rw [← firstDone_set]
    refine hstep i o ho _ a w (by rw [firstDone_at hlt]; simp) ?_ hJ
    unfold Waited
    rw [Array.all_eq_true']
    intro e he
    have hlte : e.on < i := by
      unfold backward at hb
      rw [List.all_eq_true] at hb
      have := hb i (List.mem_range.2 hlt)
      rw [ho] at this
      simp only [Option.map_some, Option.getD_some] at this
      rw [Array.all_eq_true'] at this
      simpa using this e he
    rw [Bool.or_eq_true]
    right
    have := firstDone_at (n := ops.size) (i := i) (j := e.on) (by omega)
    rw [Array.getD_eq_getD_getElem?, this]
    simpa using hlte
theorem wp_region_lex {id : Nat} {a : Act} {w : World} (J : Act → Array Bool → Act → World → Prop) (hb : backward ops = true)
    (h0 : J a (Array.replicate ops.size false) a w) (hstep : Each P ops .any Q (J a) 0 ops.toList) (hdone : ∀ a' w', J a (Array.replicate ops.size true) a' w' → Q .normal a' w') :
    (Code.region id ops false).wp P Q a w := by
  refine wp_region ?_
  rw [List.range_eq_range']
  refine wpOps_state (J a) hb ?_ hdone ops.size 0 a w (by omega) (by rw [firstDone_zero]; exact h0)
  intro i o ho listed a' w' hf hw hJ
  refine wpOp_step ho fun K hK => ?_
  exact hstep i o (by rw [Array.getElem?_toList]; exact ho) listed a' w' (by rw [Nat.zero_add]; exact hf) hw hJ K (by rw [Nat.zero_add]; exact hK)
end
end Go.Proofs.YtdncljdfmdgdaaaGreatDoor

namespace Go.Proofs.YtdncljdfmdgdaaaGreatDoor
open Go.RowKit

/-- The results of operations in their slots. -/
def fillAct (u : Nat → Value) : List Oper → Nat → Act → Act
  | [], _, a => a
  | o :: l, k, a => fillAct u l (k + 1) (a.put o.dst (u k))
def upd (u : Nat → Value) (i : Nat) (x : Value) : Nat → Value := fun j => if j = i then x else u j
def slots (l : List Oper) : List Tmp := l.filterMap (·.dst)
def slotAt (l : List Oper) (i : Nat) : Option Tmp := (l[i]?).bind (·.dst)

theorem fillAct_congr {u v : Nat → Value} : ∀ (l : List Oper) (k : Nat) (a : Act), (∀ j, k ≤ j → u j = v j) → fillAct u l k a = fillAct v l k a
  | [], k, a, h => rfl
  | o :: l, k, a, h => by
    rw [fillAct, fillAct, h k (Nat.le_refl _)]
    exact fillAct_congr l (k + 1) _ fun j hj => h j (by omega)
theorem put_put (a : Act) (d : Option Tmp) (x y : Value) : (a.put d x).put d y = a.put d y := by
  cases d with
  | none => rfl
  | some d => simp [Act.put]
theorem fillAct_put_other {u : Nat → Value} (d : Option Tmp) (x : Value) : ∀ (l : List Oper) (k : Nat) (a : Act), (∀ t, d = some t → t ∉ slots l) → (fillAct u l k a).put d x = fillAct u l k (a.put d x)
  | [], k, a, h => rfl
  | o :: l, k, a, h => by
    rw [fillAct, fillAct, fillAct_put_other d x l (k + 1) _ (fun t ht hm => h t ht ?_), Act.put_comm a _ _ ?_]
    · intro t ht he
      exact h t he (by unfold slots; rw [List.filterMap_cons, ht]; exact List.mem_cons_self)
    · unfold slots at hm ⊢
      rw [List.filterMap_cons]
      split
      · exact hm
      · exact List.mem_cons_of_mem _ hm
theorem slots_cons_nodup {o : Oper} {l : List Oper} (h : (slots (o :: l)).Nodup) : (slots l).Nodup ∧ ∀ t, o.dst = some t → t ∉ slots l := by
  unfold slots at h ⊢
  rw [List.filterMap_cons] at h
  cases hd : o.dst with
  | none => rw [hd] at h; exact ⟨h, fun t ht => by cases ht⟩
  | some d =>
    rw [hd] at h
    obtain ⟨h1, h2⟩ := List.nodup_cons.1 h
    exact ⟨h2, fun t ht => by injection ht with ht; subst ht; exact h1⟩
theorem fillAct_put {u : Nat → Value} (x : Value) : ∀ (l : List Oper) (k i : Nat) (a : Act) (o : Oper), (slots l).Nodup → l[i]? = some o → (fillAct u l k a).put o.dst x = fillAct (upd u (k + i) x) l k a
  | [], k, i, a, o, hn, h => by simp at h
  | o' :: l, k, 0, a, o, hn, h => by
    simp only [List.getElem?_cons_zero, Option.some.injEq] at h
    subst h
    rw [fillAct, fillAct, fillAct_put_other _ x l (k + 1) _ (slots_cons_nodup hn).2, put_put]
    rw [show upd u (k + 0) x k = x by simp [upd]]
    exact fillAct_congr l (k + 1) _ fun j hj => by simp only [upd]; rw [if_neg (by omega)]
  | o' :: l, k, i + 1, a, o, hn, h => by
    simp only [List.getElem?_cons_succ] at h
    rw [fillAct, fillAct, fillAct_put x l (k + 1) i _ o (slots_cons_nodup hn).1 h, show k + 1 + i = k + (i + 1) by omega]
    rw [show upd u (k + (i + 1)) x k = u k by simp only [upd]; rw [if_neg (by omega)]]
theorem put_self (a : Act) (d : Tmp) : a.put (some d) (a.eval (.tmp d)) = a := by
  cases a with
  | mk t ds =>
    simp only [Act.put, Act.eval]
    congr 1
    apply Array.ext (by simp)
    intro i h1 h2
    rw [Array.getElem_setIfInBounds]
    · split
      · rename_i he
        subst he
        simp [h2]
      · rfl
theorem fillAct_init {u : Nat → Value} (a : Act) : ∀ (l : List Oper) (k : Nat), (∀ i d, slotAt l i = some d → u (k + i) = a.eval (.tmp d)) → fillAct u l k a = a
  | [], k, h => rfl
  | o :: l, k, h => by
    have h0 : a.put o.dst (u k) = a := by
      cases hd : o.dst with
      | none => rfl
      | some d => rw [show u k = a.eval (.tmp d) from h 0 d (by simp [slotAt, hd])]; exact put_self a d
    rw [fillAct, h0]
    exact fillAct_init a l (k + 1) fun i d hd => by
      have := h (i + 1) d (by simpa [slotAt] using hd)
      rw [show k + 1 + i = k + (i + 1) by omega]
      exact this
theorem put_size (a : Act) (d : Option Tmp) (x : Value) : (a.put d x).tmps.size = a.tmps.size := by
  cases d <;> simp [Act.put]
theorem fillAct_other {u : Nat → Value} : ∀ (l : List Oper) (k : Nat) (a : Act) (d : Tmp), d ∉ slots l → (fillAct u l k a).eval (.tmp d) = a.eval (.tmp d)
  | [], k, a, d, h => rfl
  | o :: l, k, a, d, h => by
    have h1 : d ∉ slots l := fun hm => h (by unfold slots at hm ⊢; rw [List.filterMap_cons]; split; exact hm; exact List.mem_cons_of_mem _ hm)
    rw [fillAct, fillAct_other l (k + 1) _ d h1]
    refine Act.eval_put fun t ht he => ?_
    injection he with he
    subst he
    exact h (by unfold slots; rw [List.filterMap_cons, ht]; exact List.mem_cons_self)
theorem fillAct_slot {u : Nat → Value} : ∀ (l : List Oper) (k i : Nat) (a : Act) (d : Tmp), (slots l).Nodup → slotAt l i = some d → d < a.tmps.size → (fillAct u l k a).eval (.tmp d) = u (k + i)
  | [], k, i, a, d, hn, h, hs => by simp [slotAt] at h
  | o :: l, k, 0, a, d, hn, h, hs => by
    have hd : o.dst = some d := by simpa [slotAt] using h
    rw [fillAct, fillAct_other l (k + 1) _ d ((slots_cons_nodup hn).2 d hd), hd]
    simp [Act.put, Act.eval, hs]
  | o :: l, k, i + 1, a, d, hn, h, hs => by
    rw [fillAct, fillAct_slot l (k + 1) i _ d (slots_cons_nodup hn).1 (by simpa [slotAt] using h) (by rw [put_size]; exact hs), show k + 1 + i = k + (i + 1) by omega]

section
variable {P : Program} {ops : Array Oper} {Q : Exit → Act → World → Prop}
/-- Operation i waits for operation j. -/
def edge (ops : List Oper) (i j : Nat) : Bool := ((ops[i]?).map fun o => o.after.any fun e => Region.binds .any e && e.on == j).getD false
def nextK (apps : List Nat) (i k : Nat) : Nat := if apps.contains i then k + 1 else k
def slotsIn (ops : List Oper) (n : Nat) : Bool := ops.all fun o => match o.dst with | some d => decide (d < n) | none => true
def slotsOk (ops : List Oper) : Bool := decide (slots ops).Nodup
def appsOk (apps : List Nat) (n : Nat) : Bool := decide apps.Nodup && apps.all (· < n)
/-- Each append waits for the one ahead of it. -/
def chained (ops : List Oper) : List Nat → Bool
  | i :: j :: l => edge ops j i && chained ops (j :: l)
  | _ => true
theorem chained_edge {ops : List Oper} : ∀ (l : List Nat) (e i j : Nat), chained ops l = true → l[e]? = some i → l[e + 1]? = some j → edge ops j i = true
  | [], e, i, j, h, h1, h2 => by simp at h1
  | [x], e, i, j, h, h1, h2 => by simp at h2
  | x :: y :: l, 0, i, j, h, h1, h2 => by
    simp at h1 h2
    subst h1 h2
    rw [chained, Bool.and_eq_true] at h
    exact h.1
  | x :: y :: l, e + 1, i, j, h, h1, h2 => by
    rw [chained, Bool.and_eq_true] at h
    exact chained_edge (y :: l) e i j h.2 (by simpa using h1) (by simpa using h2)

theorem nodup_inj {l : List Nat} (h : l.Nodup) : ∀ {i j : Nat} (hi : i < l.length) (hj : j < l.length), l[i] = l[j] → i = j := by
  induction l with
  | nil => intro i j hi; simp at hi
  | cons x l ih =>
    obtain ⟨h1, h2⟩ := List.nodup_cons.1 h
    intro i j hi hj e
    cases i with
    | zero =>
      cases j with
      | zero => rfl
      | succ j => exact absurd (by simp at e; rw [e]; exact List.getElem_mem _) h1
    | succ i =>
      cases j with
      | zero => exact absurd (by simp at e; rw [← e]; exact List.getElem_mem _) h1
      | succ j => exact congrArg (· + 1) (ih h2 (by simpa using hi) (by simpa using hj) (by simpa using e))
/-- What follows behind one operation's run: it yields a value, or is a call that comes back. -/
def upon2 (P : Program) (K : Value → World → Prop) : Result Next → Prop
  | .ok (.value v) w' => K v w'
  | .ok .skip w' => K undef w'
  | .ok (.enter f args) w' => Calls P f args w' fun e w'' => ∃ v, e = .returned v ∧ K v w''
  | _ => False
theorem upon2_value (K : Value → World → Prop) (v : Value) (w : World) : upon2 P K (.ok (.value v) w) = K v w := rfl
theorem upon2_skip (K : Value → World → Prop) (w : World) : upon2 P K (.ok .skip w) = K undef w := rfl
theorem upon2_enter (K : Value → World → Prop) (f : FuncId) (args : Array Value) (w : World) : upon2 P K (.ok (.enter f args) w) = Calls P f args w fun e w'' => ∃ v, e = .returned v ∧ K v w'' := rfl
/-- One operation, over what its operands are. -/
def opWp (P : Program) (o : Oper) (ρ : Operand → Value) (w : World) (K : Value → World → Prop) : Prop := upon2 P K ((execOp ρ o).run P w)
theorem wp_of_opWp {o : Oper} {A : Act} {w : World} {K : Act → World → Prop} (h : opWp P o A.eval w fun v w' => K (A.put o.dst v) w') : o.wp P A w K Q := by
  unfold Oper.wp
  unfold opWp at h
  generalize (execOp A.eval o).run P w = r at *
  cases r with
  | ok n w' =>
    cases n <;> simp only [Oper.upon, upon2] at h ⊢
    case value => exact h
    case skip => exact h
    case enter => exact Calls.mono h fun e w'' he => by obtain ⟨v, rfl, he⟩ := he; exact he
  | halt x w' => exact absurd h (by simp [upon2])
/-- One operation that may have a guard. -/
def guarded (ops : List Oper) (u : Nat → Value) (o : Oper) (K : Value → World → Prop) (w : World) (X : Prop) : Prop :=
  match o.guard with
  | none => X
  | some (g, b) => ∃ c, (slotAt ops g).isSome = true ∧ u g = .bool c ∧ (c = b → X) ∧ (c ≠ b → K undef w)

/-- What is asked of one operation. -/
def OpOk (P : Program) (Q : Exit → Act → World → Prop) (ops : Array Oper) (a : Act) (apps : List Nat) (I : Nat → World → Value → Prop) (M : World → Value → Nat → World → Value → Nat → Prop)
    (F : Nat → Value → World → Value → Nat → Prop) (i : Nat) (o : Oper) : Prop :=
  ∀ (ρ : Operand → Value) (u : Nat → Value) (L : Nat → Prop) (w : World) (r : Value) (k : Nat),
    (∀ d j, slotAt ops.toList j = some d → ρ (.tmp d) = u j) →
    (∀ d, (slots ops.toList).contains d = false → ρ (.tmp d) = a.eval (.tmp d)) → (∀ v, ρ (.const v) = v) → (∀ g, ρ (.global g) = .pointer (some ⟨g, 0, none⟩)) → (∀ f, ρ (.func f) = .func (.func f) #[] #[]) →
    (∀ j, edge ops.toList i j = true → L j) → (∀ j j', edge ops.toList j j' = true → L j → L j') → ¬ L i →
    (∀ j, L j → F j (u j) w r k) → (∀ d j, slotAt ops.toList j = some d → ¬ L j → u j = a.eval (.tmp d)) →
    (∀ j e, apps[e]? = some j → (L j ↔ e < k)) → I k w r →
    ∀ K : Value → World → Prop, Hid (∀ x w' r', M w r k w' r' (nextK apps i k) → I (nextK apps i k) w' r' → F i x w' r' (nextK apps i k) → K x w') →
      guarded ops.toList u o K w (opWp P o ρ w K)
def OpsOk (P : Program) (Q : Exit → Act → World → Prop) (ops : Array Oper) (a : Act) (apps : List Nat) (I : Nat → World → Value → Prop) (M : World → Value → Nat → World → Value → Nat → Prop)
    (F : Nat → Value → World → Value → Nat → Prop) (k : Nat) (l : List Oper) : Prop := ∀ j o, l[j]? = some o → OpOk P Q ops a apps I M F (k + j) o
theorem OpsOk.nil {a : Act} {apps : List Nat} {I : Nat → World → Value → Prop} {M : World → Value → Nat → World → Value → Nat → Prop} {F : Nat → Value → World → Value → Nat → Prop} {k : Nat} : OpsOk P Q ops a apps I M F k [] := fun j o h => by simp at h
theorem OpsOk.cons {a : Act} {apps : List Nat} {I : Nat → World → Value → Prop} {M : World → Value → Nat → World → Value → Nat → Prop} {F : Nat → Value → World → Value → Nat → Prop} {k : Nat} {o : Oper} {l : List Oper}
    (h : OpOk P Q ops a apps I M F k o) (hl : OpsOk P Q ops a apps I M F (k + 1) l) : OpsOk P Q ops a apps I M F k (o :: l) := by
  intro j o' hj
  cases j with
  | zero =>
    simp only [List.getElem?_cons_zero, Option.some.injEq] at hj
    subst hj
    exact h
  | succ j =>
    simp only [List.getElem?_cons_succ] at hj
    have := hl j o' hj
    rw [show k + 1 + j = k + (j + 1) by omega] at this
    exact this
/-- A fact that stays. -/
def Stays (M : World → Value → Nat → World → Value → Nat → Prop) (f : Value → World → Value → Nat → Prop) : Prop := ∀ x w r k w' r' k', M w r k w' r' k' → f x w r k → f x w' r' k'
def AllStay (M : World → Value → Nat → World → Value → Nat → Prop) (Fs : List (Value → World → Value → Nat → Prop)) : Prop := ∀ f ∈ Fs, Stays M f
theorem AllStay.nil {M : World → Value → Nat → World → Value → Nat → Prop} : AllStay M [] := fun f h => by cases h
theorem AllStay.cons {M : World → Value → Nat → World → Value → Nat → Prop} {f : Value → World → Value → Nat → Prop} {Fs : List (Value → World → Value → Nat → Prop)} (h : Stays M f) (hs : AllStay M Fs) : AllStay M (f :: Fs) := by
  intro g hg
  rcases List.mem_cons.1 hg with rfl | hg
  · exact h
  · exact hs g hg
theorem Stays.pure {M : World → Value → Nat → World → Value → Nat → Prop} {p : Value → Prop} : Stays M (fun x _ _ _ => p x) := fun _ _ _ _ _ _ _ _ h => h
def nth (Fs : List (Value → World → Value → Nat → Prop)) (j : Nat) : Value → World → Value → Nat → Prop := Fs.getD j fun _ _ _ _ => True

/-- What is kept through a region. -/
def RJ (ops : Array Oper) (apps : List Nat) (I : Nat → World → Value → Prop) (F : Nat → Value → World → Value → Nat → Prop) : Act → Array Bool → Act → World → Prop :=
  fun a listed a' w' => ∃ (u : Nat → Value) (r : Value) (k : Nat), listed.size = ops.size ∧ k ≤ apps.length ∧ a' = fillAct u ops.toList 0 a ∧ I k w' r ∧
    (∀ j e : Nat, apps[e]? = some j → (listed[j]? = some true ↔ e < k)) ∧ (∀ j j', edge ops.toList j j' = true → listed[j]? = some true → listed[j']? = some true) ∧
    (∀ j, listed[j]? = some true → F j (u j) w' r k) ∧ (∀ d j, slotAt ops.toList j = some d → ¬ listed[j]? = some true → u j = a.eval (.tmp d))
theorem RJ_start {a : Act} {w : World} {apps : List Nat} {I : Nat → World → Value → Prop} {F : Nat → Value → World → Value → Nat → Prop} {R0 : Value} (h0 : I 0 w R0) : RJ ops apps I F a (Array.replicate ops.size false) a w := by
  refine ⟨fun j => match slotAt ops.toList j with | some d => a.eval (.tmp d) | none => undef, R0, 0, by simp, Nat.zero_le _, ?_, h0, ?_, ?_, ?_, ?_⟩
  · refine (fillAct_init a _ 0 fun i d hd => ?_).symm
    rw [Nat.zero_add]
    simp only [hd]
  · intro j e he
    constructor
    · intro h
      rw [Array.getElem?_replicate] at h
      split at h <;> simp at h
    · intro h; omega
  · intro j j' _ h
    rw [Array.getElem?_replicate] at h
    split at h <;> simp at h
  · intro j h
    rw [Array.getElem?_replicate] at h
    split at h <;> simp at h
  · intro d j hd _
    simp only [hd]
theorem RJ_step {a : Act} {apps : List Nat} {I : Nat → World → Value → Prop} {M : World → Value → Nat → World → Value → Nat → Prop}
    {Fs : List (Value → World → Value → Nat → Prop)} (hb : backward ops = true) (hs : slotsOk ops.toList = true) (hr : slotsIn ops.toList a.tmps.size = true) (ha : appsOk apps ops.size = true) (hch : chained ops.toList apps = true)
    (hF : AllStay M Fs) (hstep : OpsOk P Q ops a apps I M (nth Fs) 0 ops.toList) : Each P ops .any Q (RJ ops apps I (nth Fs) a) 0 ops.toList := by
  have hnd : (slots ops.toList).Nodup := by simpa [slotsOk] using hs
  have hrange : ∀ i d, slotAt ops.toList i = some d → d < a.tmps.size := by
    intro i d hd
    unfold slotsIn at hr
    rw [List.all_eq_true] at hr
    unfold slotAt at hd
    obtain ⟨o, ho, hod⟩ := Option.bind_eq_some_iff.1 hd
    have := hr o (List.mem_of_getElem? ho)
    rw [hod] at this
    simpa using this
  obtain ⟨hapn, hapr⟩ : apps.Nodup ∧ ∀ j ∈ apps, j < ops.size := by
    simpa [appsOk] using ha
  have happ1 : ∀ e e' j : Nat, apps[e]? = some j → apps[e']? = some j → e = e' := by
    intro e e' j h1 h2
    obtain ⟨l1, g1⟩ := List.getElem?_eq_some_iff.1 h1
    obtain ⟨l2, g2⟩ := List.getElem?_eq_some_iff.1 h2
    exact nodup_inj hapn l1 l2 (g1.trans g2.symm)
  have hstay : ∀ j, Stays M (nth Fs j) := by
    intro j
    unfold nth
    rw [List.getD_eq_getElem?_getD]
    cases hj : Fs[j]? with
    | none => exact fun _ _ _ _ _ _ _ _ _ => trivial
    | some f => exact hF f (List.mem_of_getElem? hj)
  intro i o ho listed A w' hf hw hJ K hK
  obtain ⟨u, r, k, hsz, hk, hA, hI, hap, hcl, hfc, hun⟩ := hJ
  rw [Nat.zero_add] at hf
  rw [Nat.zero_add] at hK
  have hi : i < ops.size := by rw [← hsz]; exact (Array.getElem?_eq_some_iff.1 hf).1
  have hset : ∀ j : Nat, (listed.setIfInBounds i true)[j]? = some true ↔ (j = i ∨ listed[j]? = some true) := by
    intro j
    by_cases hji : j = i
    · subst hji
      simp [hsz, hi]
    · rw [Array.getElem?_setIfInBounds_ne (Ne.symm hji)]
      simp [hji]
  have hedge : ∀ j, edge ops.toList i j = true → listed[j]? = some true := by
    intro j hj
    unfold edge at hj
    rw [ho] at hj
    simp only [Option.map_some, Option.getD_some, Array.any_eq_true', Bool.and_eq_true, beq_iff_eq] at hj
    obtain ⟨e, he, hbnd, rfl⟩ := hj
    unfold Waited at hw
    rw [Array.all_eq_true'] at hw
    have := hw e he
    rw [hbnd] at this
    simp only [Bool.not_true, Bool.false_or] at this
    cases hx : listed[e.on]? with
    | none => simp [Array.getD_eq_getD_getElem?, hx] at this
    | some b => simp [Array.getD_eq_getD_getElem?, hx] at this; rw [this]
  have hni : ¬ listed[i]? = some true := by rw [hf]; simp
  have hslot : ∀ d j, slotAt ops.toList j = some d → A.eval (.tmp d) = u j := fun d j hd => by
    rw [hA]
    have := fillAct_slot (u := u) ops.toList 0 j a d hnd hd (hrange j d hd)
    rw [Nat.zero_add] at this
    exact this
  have hok := hstep i o ho A.eval u (fun j => listed[j]? = some true) w' r k hslot (fun d hd => by rw [hA]; exact fillAct_other ops.toList 0 a d (by simpa using hd)) (fun _ => rfl) (fun _ => rfl) (fun _ => rfl)
    (by rw [Nat.zero_add]; exact hedge) hcl (by rw [Nat.zero_add]; exact hni) hfc hun hap hI (fun v w'' => K (A.put o.dst v) w'')
  rw [Nat.zero_add] at hok
  suffices hK2 : ∀ x w'' r', M w' r k w'' r' (nextK apps i k) → I (nextK apps i k) w'' r' → nth Fs i x w'' r' (nextK apps i k) → K (A.put o.dst x) w'' by
    have := hok (Lib.hid hK2)
    unfold guarded at this
    cases hg : o.guard with
    | none =>
      rw [hg] at this
      rw [if_pos (by unfold Region.wanted; rw [hg])]
      exact wp_of_opWp this
    | some gb =>
      obtain ⟨g, b⟩ := gb
      rw [hg] at this
      obtain ⟨c, hsome, hc, h1, h2⟩ := this
      obtain ⟨d, hd⟩ := Option.isSome_iff_exists.1 hsome
      have hy : yielded ops A.tmps g = some c := by
        have hev := hslot d g hd
        rw [hc] at hev
        have hlt : d < A.tmps.size := by
          rcases Nat.lt_or_ge d A.tmps.size with h | h
          · exact h
          · simp [Act.eval, undef, Nat.not_lt.2 h] at hev
        unfold slotAt at hd
        rw [Array.getElem?_toList] at hd
        unfold yielded
        rw [hd]
        simp only [Option.bind_some]
        simp only [Act.eval, Array.getD, dif_pos hlt] at hev
        rw [Array.getElem?_eq_getElem hlt]
        rw [show A.tmps[d] = .bool c from hev]
      have hwt : Region.wanted o (yielded ops A.tmps) = (c == b) := by
        unfold Region.wanted
        rw [hg]
        simp only [hy]
        cases c <;> cases b <;> rfl
      by_cases hcb : c = b
      · rw [if_pos (by rw [hwt]; simpa using hcb)]
        exact wp_of_opWp (h1 hcb)
      · rw [if_neg (by rw [hwt]; simpa using hcb)]
        exact h2 hcb
  intro x w'' r' hM hI' hFi
  refine hK.out _ _ ?_
  have hkn : (apps.contains i = true ∧ ∃ e, apps[e]? = some i ∧ nextK apps i k = k + 1 ∧ e = k) ∨ (apps.contains i = false ∧ nextK apps i k = k) := by
    cases hc : apps.contains i with
    | false => right; exact ⟨rfl, by unfold nextK; rw [hc]; rfl⟩
    | true =>
      left
      refine ⟨rfl, ?_⟩
      have hmem : i ∈ apps := by simpa using hc
      obtain ⟨e, he⟩ := List.mem_iff_getElem?.1 hmem
      refine ⟨e, he, by unfold nextK; rw [hc]; rfl, ?_⟩
      have h1 : ¬ e < k := fun h => hni ((hap i e he).2 h)
      have h2 : ¬ k < e := by
        intro hlt
        obtain ⟨e, rfl⟩ : ∃ e', e = e' + 1 := ⟨e - 1, by omega⟩
        have hlen : e < apps.length := by have := (List.getElem?_eq_some_iff.1 he).1; omega
        have hpe := List.getElem?_eq_getElem hlen
        have := (hap _ e hpe).1 (hedge _ (chained_edge apps e _ i hch hpe he))
        omega
      omega
  refine ⟨upd u i x, r', nextK apps i k, by simpa using hsz, ?_, ?_, hI', ?_, ?_, ?_, ?_⟩
  · rcases hkn with ⟨-, e, he, hk1, rfl⟩ | ⟨-, hk1⟩
    · rw [hk1]; exact (List.getElem?_eq_some_iff.1 he).1
    · rw [hk1]; exact hk
  · rw [hA, fillAct_put x ops.toList 0 i a o hnd ho, Nat.zero_add]
  · intro j e he
    rw [hset, hap j e he]
    rcases hkn with ⟨-, e', he', hk1, rfl⟩ | ⟨hc, hk1⟩
    · rw [hk1]
      constructor
      · rintro (rfl | h)
        · rw [happ1 _ _ _ he he']; omega
        · omega
      · intro h
        by_cases hlt : e < e'
        · exact .inr hlt
        · obtain rfl : e = e' := by omega
          left
          rw [he] at he'
          injection he'
    · rw [hk1]
      constructor
      · rintro (rfl | h)
        · exfalso
          have : apps.contains j = true := by simpa using List.mem_of_getElem? he
          rw [hc] at this
          cases this
        · exact h
      · exact .inr
  · intro j j' he hj
    rw [hset] at hj ⊢
    rcases hj with rfl | hj
    · exact .inr (hedge j' he)
    · exact .inr (hcl j j' he hj)
  · intro j hj
    rw [hset] at hj
    by_cases hji : j = i
    · subst hji
      rw [show upd u j x j = x by simp [upd]]
      exact hFi
    · rw [show upd u i x j = u j by simp [upd, hji]]
      exact hstay j _ _ _ _ _ _ _ hM (hfc j (by rcases hj with h | h; exact absurd h hji; exact h))
  · intro d j hd hj
    rw [hset] at hj
    have hji : j ≠ i := fun h => hj (.inl h)
    rw [show upd u i x j = u j by simp [upd, hji]]
    exact hun d j hd fun h => hj (.inr h)
theorem RJ_done {a : Act} {apps : List Nat} {I : Nat → World → Value → Prop} {Fs : List (Value → World → Value → Nat → Prop)} (ha : appsOk apps ops.size = true) {n : Nat} (hn : ops.size = n)
    (hdone : ∀ (u : Nat → Value) (w' : World) (r : Value), I apps.length w' r → (∀ j, j < n → nth Fs j (u j) w' r apps.length) → Q .normal (fillAct u ops.toList 0 a) w') :
    ∀ a' w', RJ ops apps I (nth Fs) a (Array.replicate ops.size true) a' w' → Q .normal a' w' := by
  obtain ⟨hapn, hapr⟩ : apps.Nodup ∧ ∀ j ∈ apps, j < ops.size := by
    simpa [appsOk] using ha
  intro a' w' hJ
  obtain ⟨u, r, k, hsz, hk, rfl, hI, hap, hcl, hfc, hun⟩ := hJ
  have hall : ∀ j, j < ops.size → (Array.replicate ops.size true)[j]? = some true := fun j hj => by
    rw [Array.getElem?_replicate, if_pos hj]
  obtain rfl : k = apps.length := by
    cases Nat.lt_or_ge k apps.length with
    | inr h => omega
    | inl h =>
      have := (hap apps[k] k (List.getElem?_eq_getElem h)).1 (hall _ (hapr _ (List.getElem_mem h)))
      omega
  exact hdone u w' r hI fun j hj => hfc j (hall j (by rw [hn]; exact hj))
theorem wp_region_facts {id : Nat} {a : Act} {w : World} (hm : P.follows .mixedOrders = true) (apps : List Nat) (I : Nat → World → Value → Prop) (M : World → Value → Nat → World → Value → Nat → Prop)
    (Fs : List (Value → World → Value → Nat → Prop)) (R0 : Value) (hb : backward ops = true) (hs : slotsOk ops.toList = true) (hr : slotsIn ops.toList a.tmps.size = true) (ha : appsOk apps ops.size = true) (hch : chained ops.toList apps = true)
    (hF : AllStay M Fs) {n : Nat} (hn : ops.size = n) (h0 : I 0 w.drew R0) (hstep : OpsOk P Q ops a apps I M (nth Fs) 0 ops.toList)
    (hdone : ∀ (u : Nat → Value) (w' : World) (r : Value), I apps.length w' r → (∀ j, j < n → nth Fs j (u j) w' r apps.length) → Q .normal (fillAct u ops.toList 0 a) w') :
    (Code.region id ops true).wp P Q a w :=
  wp_region_state (RJ ops apps I (nth Fs)) hm hb (RJ_start h0) (RJ_step hb hs hr ha hch hF hstep) (RJ_done ha hn hdone)
/-- The same for a region that has its order. -/
theorem wp_region_facts_lex {id : Nat} {a : Act} {w : World} (apps : List Nat) (I : Nat → World → Value → Prop) (M : World → Value → Nat → World → Value → Nat → Prop)
    (Fs : List (Value → World → Value → Nat → Prop)) (R0 : Value) (hb : backward ops = true) (hs : slotsOk ops.toList = true) (hr : slotsIn ops.toList a.tmps.size = true) (ha : appsOk apps ops.size = true) (hch : chained ops.toList apps = true)
    (hF : AllStay M Fs) {n : Nat} (hn : ops.size = n) (h0 : I 0 w R0) (hstep : OpsOk P Q ops a apps I M (nth Fs) 0 ops.toList)
    (hdone : ∀ (u : Nat → Value) (w' : World) (r : Value), I apps.length w' r → (∀ j, j < n → nth Fs j (u j) w' r apps.length) → Q .normal (fillAct u ops.toList 0 a) w') :
    (Code.region id ops false).wp P Q a w :=
  wp_region_lex (RJ ops apps I (nth Fs)) hb (RJ_start h0) (RJ_step hb hs hr ha hch hF hstep) (RJ_done ha hn hdone)
end
end Go.Proofs.YtdncljdfmdgdaaaGreatDoor

namespace Go.Proofs.YtdncljdfmdgdaaaGreatDoor
open Go.RowKit Go.Shelf
set_option linter.unusedSimpArgs false
set_option linter.unusedVariables false

/-- From a world and a row in hand to a later world and the row as it is there: all else is as it was. -/
structure Mv (w : World) (r : Value) (w' : World) (r' : Value) : Prop where
  g : w.grownBy w' r.ownBlock
  own : ∀ k, r'.ownBlock = some k → r.ownBlock = some k ∨ w.heap.size ≤ k
theorem Mv.refl (w : World) (r : Value) : Mv w r w r := ⟨⟨rfl, rfl, rfl, Nat.le_refl _, fun _ _ _ => rfl⟩, fun _ h => .inl h⟩
theorem Mv.of_below {w w' : World} (r : Value) (h : Below w.heap.size w w') : Mv w r w' r := ⟨⟨h.os, h.tape, h.output, h.size, fun k hk _ => h.block k hk⟩, fun _ h => .inl h⟩
theorem Mv.of_alloc (w : World) (r : Value) (o : Obj) : Mv w r (w.alloc o) r := ⟨World.grownBy_alloc w o _, fun _ h => .inl h⟩
/-- A call gives the row in hand, where none was in hand. -/
theorem Mv.first {w w' : World} {r r' : Value} (h : Below w.heap.size w w') (hr : ∀ k, r'.ownBlock = some k → w.heap.size ≤ k) : Mv w r w' r' := ⟨⟨h.os, h.tape, h.output, h.size, fun k hk _ => h.block k hk⟩, fun k hk => .inr (hr k hk)⟩
theorem belowMv {B : Nat} {w0 w w' : World} {r r' : Value} (hb : Below B w0 w) (hB : B ≤ w.heap.size) (h : Mv w r w' r') (hr : ∀ k, r.ownBlock = some k → B ≤ k) : Below B w0 w' :=
  ⟨h.g.os.trans hb.os, h.g.tape.trans hb.tape, h.g.output.trans hb.output, Nat.le_trans hb.size h.g.size, fun k hk => (h.g.block k (by omega) fun e => by have := hr k e.symm; omega).trans (hb.block k hk)⟩

/-- Texts that lie elsewhere than the row in hand. -/
def Str (w : World) (v : Value) (m : List Lx.Bytes) (r : Value) : Prop :=
  ∃ A c, v = .slice A m.length c ∧ ∀ j u, (strsV m)[j]? = some u → ∃ g off, A = some ⟨g, off, none⟩ ∧ w.cell? ⟨g, off + j, none⟩ = some u ∧ r.ownBlock ≠ some g
theorem Str.mv {w w' : World} {v r r' : Value} {m : List Lx.Bytes} (h : Str w v m r) (hm : Mv w r w' r') : Str w' v m r' := by
  obtain ⟨A, c, hv, hl⟩ := h
  refine ⟨A, c, hv, fun j u hj => ?_⟩
  obtain ⟨g, off, hA, hc, hr⟩ := hl j u hj
  have hg := World.block_lt_of_cell? w ⟨g, off + j, none⟩ hc
  refine ⟨g, off, hA, (World.cell?_of_block (hm.g.block g hg fun e => hr e.symm)).trans hc, fun e => ?_⟩
  rcases hm.own g e with h | h
  · exact hr h
  · exact absurd hg (Nat.not_lt.2 h)
theorem Str.one {w : World} {g : Nat} {s : Lx.Bytes} {r : Value} {c : Nat} {t : TypeId} {fr : Nat × Nat} (h : w.heap[g]? = some (.cells #[.string ⟨s.toArray⟩] t fr)) (hr : ∀ k, r.ownBlock = some k → k < g) : Str w (.slice (some ⟨g, 0, none⟩) 1 c) [s] r := by
  refine ⟨_, c, rfl, fun j u hj => ⟨g, 0, rfl, ?_, fun e => by have := hr g e; omega⟩⟩
  rw [Nat.zero_add, cell_of h, ← Array.getElem?_toList]
  exact hj
theorem Str.of_own {w : World} {B : Nat} {v r : Value} {m : List Lx.Bytes} (h : OwnS w B v m) (hr : ∀ k, r.ownBlock = some k → k < B) : Str w v m r := by
  have hrow := h.row
  obtain ⟨A, c, rfl⟩ := h.slice
  refine ⟨A, c, rfl, fun j u hj => ?_⟩
  obtain ⟨g, off, hA, hc⟩ := hrow.cells.2 j u hj
  refine ⟨g, off, hA, hc, fun e => ?_⟩
  have h1 := hr g e
  have h2 := World.ownsRow.lt h g ?_
  · omega
  · rcases h.2 with ⟨h3, -⟩ | ⟨g', cap, cur, h3, -⟩
    · rw [hA] at h3; injection h3 with h3; cases h3
    · injection h3 with h3
      rw [hA] at h3
      injection h3 with h3
      injection h3 with h3
      subst h3
      rw [hA]
      subst_vars
      rfl
theorem OwnS.lt {w : World} {B : Nat} {v : Value} {l : List Lx.Bytes} (h : OwnS w B v l) (k : Nat) (hk : v.ownBlock = some k) : B ≤ k ∧ k < w.heap.size := World.ownsRow.lt h k hk
theorem OwnS.below {w w' : World} {B : Nat} {v : Value} {l : List Lx.Bytes} (h : OwnS w B v l) (hb : Below w.heap.size w w') : OwnS w' B v l :=
  World.ownsRow.kept h (below_grown hb) (by cases v.ownBlock <;> simp)
theorem OwnS.base_le {w : World} {B B' : Nat} {v : Value} {l : List Lx.Bytes} (h : OwnS w B v l) (hb : B' ≤ B) : OwnS w B' v l := by
  refine ⟨h.1, ?_⟩
  rcases h.2 with hn | ⟨g, cap, cur, rfl, hg, rest⟩
  · exact .inl hn
  · exact .inr ⟨g, cap, cur, rfl, by omega, rest⟩

/-- append(row in hand, texts...). -/
theorem strsV_append (l m : List Lx.Bytes) : strsV (l ++ m) = strsV l ++ strsV m := by unfold strsV; rw [List.map_append]
set_option maxRecDepth 100000 in
theorem wp_rowStr {w : World} {o : Oper} {a : Act} {K : Act → World → Prop} {Q : Exit → Act → World → Prop} (s x : Operand)
    (ho : o.op = .call { callee := .builtin .append, args := #[s, x], argTypes := #[22, 22] })
    {B : Nat} {r v : Value} {l m : List Lx.Bytes} (hs : a.eval s = r) (hx : a.eval x = v) (hown : OwnS w B r l) (hv : Str w v m r) (hm : 0 < m.length) (hn : l.length + m.length ≤ 100000000) (hB : B ≤ w.heap.size)
    (h : ∀ r' w', OwnS w' B r' (l ++ m) → Mv w r w' r' → K (a.put o.dst r') w') : o.wp Tryz.prog a w K Q := by
  obtain ⟨i, hi, hz0, hz1, hz2⟩ := info_parts infoStr
  obtain ⟨A, c, rfl, hl⟩ := hv
  obtain ⟨ad, rfl⟩ : ∃ ad, A = some ad := by
    cases m with
    | nil => simp at hm
    | cons u m => obtain ⟨g, off, h, -⟩ := hl 0 _ (by simp [strsV]; rfl); exact ⟨_, h⟩
  refine wp_append_at2 s x 22 ho B 9 i _ 1 16 Tryz.underlying22 hi hz0 hz1 hz2 rfl (by decide) r l.length (strsV l) hs hown ad m.length c (strsV m) hx (by unfold strsV; simp) ?_ (strsV_one m) (by unfold maxLen; omega) (by omega) hB ?_
  · intro j u hj
    obtain ⟨g, off, hA, hc, -⟩ := hl j u hj
    injection hA with hA
    subst hA
    rw [add_none]
    exact hc
  · intro v' w' hown' hg hob
    refine h v' w' ?_ ⟨hg, fun k hk => ?_⟩
    · unfold OwnS
      rw [strsV_append, List.length_append]
      exact hown'
    · rcases hob with h | h
      · exact .inl (h.symm.trans hk)
      · right
        rw [h] at hk
        injection hk with hk
        omega
theorem stepRow {w : World} {ops : Array Oper} {o : Oper} {a : Act} {K : Act → World → Prop} {Q : Exit → Act → World → Prop} {Z : Prop} (hgd : o.guard = none) (s x : Operand)
    (ho : o.op = .call { callee := .builtin .append, args := #[s, x], argTypes := #[22, 22] })
    {B : Nat} {r v : Value} {l m : List Lx.Bytes} (hs : a.eval s = r) (hx : a.eval x = v) (hown : OwnS w B r l) (hv : Str w v m r) (hm : 0 < m.length) (hn : l.length + m.length ≤ 100000000) (hB : B ≤ w.heap.size)
    (h : ∀ r' w', OwnS w' B r' (l ++ m) → Mv w r w' r' → K (a.put o.dst r') w') : if Region.wanted o (yielded ops a.tmps) = true then o.wp Tryz.prog a w K Q else Z := by
  rw [if_pos (by unfold Region.wanted; rw [hgd])]
  exact wp_rowStr s x ho hs hx hown hv hm hn hB h
theorem wpList_rowStr {w : World} {ops : Array Oper} {rest : List Oper} {o : Oper} {a : Act} {Q : Exit → Act → World → Prop} (hgd : o.guard = none) (s x : Operand)
    (ho : o.op = .call { callee := .builtin .append, args := #[s, x], argTypes := #[22, 22] })
    {B : Nat} {r v : Value} {l m : List Lx.Bytes} (hs : a.eval s = r) (hx : a.eval x = v) (hown : OwnS w B r l) (hv : Str w v m r) (hm : 0 < m.length) (hn : l.length + m.length ≤ 100000000) (hB : B ≤ w.heap.size)
    (h : ∀ r' w', OwnS w' B r' (l ++ m) → Mv w r w' r' → wpList Tryz.prog ops Q rest (a.put o.dst r') w') : wpList Tryz.prog ops Q (o :: rest) a w :=
  wpList_plain hgd fun K hK => wp_rowStr s x ho hs hx hown hv hm hn hB fun A c h2 h3 => hK _ _ (h A c h2 h3)

end Go.Proofs.YtdncljdfmdgdaaaGreatDoor

namespace Go.Proofs.YtdncljdfmdgdaaaGreatDoor
open Go.RowKit Go.Shelf
set_option linter.unusedSimpArgs false
set_option linter.unusedVariables false

/-- The state: what lies below is kept, the row in hand holds the texts of its stage. -/
def RowI (B : Nat) (W : World) (R0 : Value) (Ls : Nat → List Lx.Bytes) : Nat → World → Value → Prop := fun k w r => Below B W w ∧ OwnS w B r (Ls k) ∧ (k = 0 → r = R0)
def RowM : World → Value → Nat → World → Value → Nat → Prop := fun w r k w' r' k' => Mv w r w' r' ∧ k ≤ k' ∧ (k' = k → r' = r)
/-- The append of stage j yields the row in hand. -/
def AppF (j : Nat) : Value → World → Value → Nat → Prop := fun x _ r k => j + 1 ≤ k ∧ (k = j + 1 → r = x)
def StrF (m : List Lx.Bytes) : Value → World → Value → Nat → Prop := fun x w r _ => Str w x m r
def IsF (v : Value) : Value → World → Value → Nat → Prop := fun x _ _ _ => x = v
theorem IsF.stays {M : World → Value → Nat → World → Value → Nat → Prop} {v : Value} : Stays M (IsF v) := fun _ _ _ _ _ _ _ _ h => h
theorem AppF.stays {j : Nat} : Stays RowM (AppF j) := fun x w r k w' r' k' hm h => by
  obtain ⟨-, h2, h3⟩ := hm
  refine ⟨by have := h.1; omega, fun e => ?_⟩
  have hk : k' = k := by have := h.1; omega
  rw [h3 hk]
  exact h.2 (by omega)
theorem StrF.stays {m : List Lx.Bytes} : Stays RowM (StrF m) := fun x w r k w' r' k' hm h => Str.mv h hm.1
theorem RowM.of_below {w w' : World} {r : Value} {k : Nat} (h : Below w.heap.size w w') : RowM w r k w' r k := ⟨Mv.of_below r h, Nat.le_refl _, fun _ => rfl⟩
theorem RowM.refl {w : World} {r : Value} {k : Nat} : RowM w r k w r k := ⟨Mv.refl w r, Nat.le_refl _, fun _ => rfl⟩
theorem RowI.below {B : Nat} {W w w' : World} {R0 r : Value} {Ls : Nat → List Lx.Bytes} {k : Nat} (h : RowI B W R0 Ls k w r) (hB : B ≤ W.heap.size) (hb : Below w.heap.size w w') : RowI B W R0 Ls k w' r :=
  ⟨h.1.trans (hb.mono (Nat.le_trans hB h.1.size)), h.2.1.below hb, h.2.2⟩
theorem of_nth {Fs : List (Value → World → Value → Nat → Prop)} {j : Nat} {f : Value → World → Value → Nat → Prop} (h : nth Fs j = f) {x : Value} {w : World} {r : Value} {k : Nat} (hh : nth Fs j x w r k) : f x w r k := by rw [h] at hh; exact hh
theorem to_nth {Fs : List (Value → World → Value → Nat → Prop)} {j : Nat} {f : Value → World → Value → Nat → Prop} (h : nth Fs j = f) {x : Value} {w : World} {r : Value} {k : Nat} (hh : f x w r k) : nth Fs j x w r k := by rw [h]; exact hh
theorem Str.arr {w : World} {g : Nat} {m : List Lx.Bytes} {r : Value} {c : Nat} {t : TypeId} {fr : Nat × Nat} {cs : Array Value} (h : w.heap[g]? = some (.cells cs t fr)) (hcs : cs.toList = strsV m) (hr : ∀ k, r.ownBlock = some k → k < g) : Str w (.slice (some ⟨g, 0, none⟩) m.length c) m r := by
  refine ⟨_, c, rfl, fun j u hj => ⟨g, 0, rfl, ?_, fun e => by have := hr g e; omega⟩⟩
  rw [Nat.zero_add, cell_of h, ← Array.getElem?_toList, hcs]
  exact hj
theorem OwnS.arr {w : World} {g B : Nat} {l : List Lx.Bytes} {cs : Array Value} (h : w.heap[g]? = some (.cells cs 9 (0, 0))) (hcs : cs.toList = strsV l) (hm : l.length ≤ maxLen) (hb : B ≤ g) : OwnS w B (.slice (some ⟨g, 0, none⟩) l.length l.length) l := by
  refine ⟨by simp [strsV], .inr ⟨g, l.length, cs, rfl, hb, h, Nat.le_refl _, hm, ?_, ?_⟩⟩
  · rw [← Array.length_toList, hcs]; simp [strsV]
  · rw [hcs]; exact List.take_of_length_le (by simp [strsV])
theorem nextK_no {apps : List Nat} {i k : Nat} (h : apps.contains i = false) : nextK apps i k = k := by unfold nextK; rw [h]; rfl
theorem nextK_yes {apps : List Nat} {i k : Nat} (h : apps.contains i = true) : nextK apps i k = k + 1 := by unfold nextK; rw [h]; rfl

attribute [local go_sem] opWp upon2_value upon2_skip upon2_enter
section
variable {P : Program} {ops : Array Oper} {Q : Exit → Act → World → Prop} {a : Act} {apps : List Nat} {I : Nat → World → Value → Prop} {M : World → Value → Nat → World → Value → Nat → Prop} {Fs : List (Value → World → Value → Nat → Prop)} {i : Nat} {o : Oper}

/-- An operation that is no append of the row in hand. -/
theorem OpOk.plain (hi : apps.contains i = false) (hg : o.guard = none)
    (h : ∀ (ρ : Operand → Value) (u : Nat → Value) (L : Nat → Prop) (w : World) (r : Value) (k : Nat),
      (∀ d j, slotAt ops.toList j = some d → ρ (.tmp d) = u j) → (∀ d, (slots ops.toList).contains d = false → ρ (.tmp d) = a.eval (.tmp d)) → (∀ v, ρ (.const v) = v) → (∀ g, ρ (.global g) = .pointer (some ⟨g, 0, none⟩)) → (∀ f, ρ (.func f) = .func (.func f) #[] #[]) →
      (∀ j, edge ops.toList i j = true → L j) → (∀ j j', edge ops.toList j j' = true → L j → L j') → ¬ L i →
      (∀ j, L j → nth Fs j (u j) w r k) → (∀ d j, slotAt ops.toList j = some d → ¬ L j → u j = a.eval (.tmp d)) → (∀ j e, apps[e]? = some j → (L j ↔ e < k)) → I k w r →
      ∀ K : Value → World → Prop, Hid (∀ x w' r', M w r k w' r' k → I k w' r' → nth Fs i x w' r' k → K x w') → opWp P o ρ w K) : OpOk P Q ops a apps I M (nth Fs) i o := by
  intro ρ u L w r k h1 h2 h3 h4 h5 h6 h7 h8 h9 h10 h11 h12 K hK
  rw [nextK_no hi] at hK
  unfold guarded
  rw [hg]
  exact h ρ u L w r k h1 h2 h3 h4 h5 h6 h7 h8 h9 h10 h11 h12 K hK
/-- One that has a guard: what it finds is told. -/
theorem OpOk.guard (hi : apps.contains i = false) {g : Nat} {b : Bool} (hg : o.guard = some (g, b)) (hgs : (slotAt ops.toList g).isSome = true)
    (h : ∀ (ρ : Operand → Value) (u : Nat → Value) (L : Nat → Prop) (w : World) (r : Value) (k : Nat),
      (∀ d j, slotAt ops.toList j = some d → ρ (.tmp d) = u j) → (∀ d, (slots ops.toList).contains d = false → ρ (.tmp d) = a.eval (.tmp d)) → (∀ v, ρ (.const v) = v) → (∀ g, ρ (.global g) = .pointer (some ⟨g, 0, none⟩)) → (∀ f, ρ (.func f) = .func (.func f) #[] #[]) →
      (∀ j, edge ops.toList i j = true → L j) → (∀ j j', edge ops.toList j j' = true → L j → L j') → ¬ L i →
      (∀ j, L j → nth Fs j (u j) w r k) → (∀ d j, slotAt ops.toList j = some d → ¬ L j → u j = a.eval (.tmp d)) → (∀ j e, apps[e]? = some j → (L j ↔ e < k)) → I k w r →
      ∀ K : Value → World → Prop, Hid (∀ x w' r', M w r k w' r' k → I k w' r' → nth Fs i x w' r' k → K x w') → ∃ c, u g = .bool c ∧ (c = b → opWp P o ρ w K) ∧ (c ≠ b → K undef w)) : OpOk P Q ops a apps I M (nth Fs) i o := by
  intro ρ u L w r k h1 h2 h3 h4 h5 h6 h7 h8 h9 h10 h11 h12 K hK
  rw [nextK_no hi] at hK
  unfold guarded
  rw [hg]
  obtain ⟨c, hc, h13, h14⟩ := h ρ u L w r k h1 h2 h3 h4 h5 h6 h7 h8 h9 h10 h11 h12 K hK
  exact ⟨c, hgs, hc, h13, h14⟩
/-- A call of a function that has a body. -/
theorem opWp_call {ρ : Operand → Value} {w : World} {K : Value → World → Prop} {fn : Func} {c : Code} {f : FuncId} {xs : Array Operand} {ats : Array TypeId} {args : Array Value}
    (ho : o.op = .call { callee := .value (.func f), args := xs, argTypes := ats }) (hf : P.funcs[f]? = some fn) (hname : (fn.name == "runtime.NumGoroutine") = false) (hb : fn.body = some c)
    (hfun : ρ (.func f) = .func (.func f) #[] #[]) (ha : xs.map ρ = args) (h : Calls P f args w fun e w'' => ∃ v, e = .returned v ∧ K v w'') : opWp P o ρ w K := by
  have h1 : fn.name ≠ "runtime.NumGoroutine" := by simpa using hname
  unfold opWp execOp
  rw [ho]
  simp [resolve, Deferred.ofValue, invoke, hfun, callFunc, hf, h1, hb, ha, upon2]
  exact h
/-- 'move', 'assign'. -/
theorem opWp_move {ρ : Operand → Value} {w : World} {K : Value → World → Prop} (x : Operand) {v : Value} (ho : o.op = .move x) (hx : ρ x = v) (h : K v w) : opWp P o ρ w K := by
  unfold opWp execOp
  rw [ho]
  show K (ρ x) w
  rw [hx]
  exact h
theorem opWp_assign {ρ : Operand → Value} {w : World} {K : Value → World → Prop} (x : Operand) {v : Value} (ho : o.op = .assign x) (hx : ρ x = v) (h : K v w) : opWp P o ρ w K := by
  unfold opWp execOp
  rw [ho]
  show K (ρ x) w
  rw [hx]
  exact h
end

section
variable {ops : Array Oper} {Q : Exit → Act → World → Prop} {a : Act} {apps : List Nat} {Fs : List (Value → World → Value → Nat → Prop)} {i : Nat} {o : Oper} {B : Nat} {W : World} {R0 : Value} {Ls : Nat → List Lx.Bytes}
set_option maxRecDepth 100000 in
theorem op_rowStr {w : World} {o : Oper} {ρ : Operand → Value} {K : Value → World → Prop} (s x : Operand)
    (ho : o.op = .call { callee := .builtin .append, args := #[s, x], argTypes := #[22, 22] })
    {B : Nat} {r v : Value} {l m : List Lx.Bytes} (hs : ρ s = r) (hx : ρ x = v) (hown : OwnS w B r l) (hv : Str w v m r) (hm : 0 < m.length) (hn : l.length + m.length ≤ 100000000) (hB : B ≤ w.heap.size)
    (h : ∀ r' w', OwnS w' B r' (l ++ m) → Mv w r w' r' → K r' w') : opWp Tryz.prog o ρ w K := by
  obtain ⟨i, hi, hz0, hz1, hz2⟩ := info_parts infoStr
  obtain ⟨A, c, rfl, hl⟩ := hv
  obtain ⟨ad, rfl⟩ : ∃ ad, A = some ad := by
    cases m with
    | nil => simp at hm
    | cons u m => obtain ⟨g, off, h, -⟩ := hl 0 _ (by simp [strsV]; rfl); exact ⟨_, h⟩
  obtain ⟨v', w', hr, h2, h3, h4, h5⟩ := run_append_own_at (P := Tryz.prog) w B 22 o.type 9 i _ 1 16 Tryz.underlying22 hi hz0 hz1 hz2 rfl (by decide) r l.length (strsV l) hown ad m.length c (strsV m) (by unfold strsV; simp) (by
    intro j u hj
    obtain ⟨g, off, hA, hc, -⟩ := hl j u hj
    injection hA with hA
    subst hA
    rw [add_none]
    exact hc) (strsV_one m) (by unfold maxLen; omega) (by omega) hB
  unfold opWp execOp
  simp only [ho, resolve, invoke, builtin, Sem.run_bind, Sem.run_pure, Result.andThen_ok, List.map_toArray, List.map_cons, List.map_nil, hs, hx, hr]
  refine h v' w' ?_ ⟨h3, fun k hk => ?_⟩
  · unfold OwnS
    rw [strsV_append, List.length_append]
    exact h2
  · rcases h5 with h | h
    · exact .inl (h.symm.trans hk)
    · right
      rw [h] at hk
      injection hk with hk
      omega
/-- append(row in hand, texts...), at its stage. -/
theorem OpOk.app {j : Nat} {m : List Lx.Bytes} (s x : Operand) (hi : apps[j]? = some i) (hg : o.guard = none)
    (ho : o.op = .call { callee := .builtin .append, args := #[s, x], argTypes := #[22, 22] }) (hF : nth Fs i = AppF j) (hLs : Ls (j + 1) = Ls j ++ m)
    (hm : 0 < m.length) (hn : (Ls j).length + m.length ≤ 100000000) (hB : B ≤ W.heap.size)
    (h : ∀ (ρ : Operand → Value) (u : Nat → Value) (L : Nat → Prop) (w : World) (r : Value) (k : Nat),
      (∀ d j, slotAt ops.toList j = some d → ρ (.tmp d) = u j) → (∀ d, (slots ops.toList).contains d = false → ρ (.tmp d) = a.eval (.tmp d)) →
      (∀ j, edge ops.toList i j = true → L j) → (∀ j j', edge ops.toList j j' = true → L j → L j') →
      (∀ j, L j → nth Fs j (u j) w r k) → k ≤ j → RowI B W R0 Ls k w r → (k = j ∧ ρ s = r) ∧ ∃ v, ρ x = v ∧ Str w v m r) : OpOk Tryz.prog Q ops a apps (RowI B W R0 Ls) RowM (nth Fs) i o := by
  intro ρ u L w r k h1 h2 h3 h4 h5 h6 h7 h8 h9 h10 h11 h12 K hK
  have hkj : k ≤ j := by
    have := h11 i j hi
    have h13 : ¬ j < k := fun hlt => h8 (this.2 hlt)
    omega
  obtain ⟨⟨rfl, hs⟩, v, hv, hst⟩ := h ρ u L w r k h1 h2 h6 h7 h9 hkj h12
  have hc : apps.contains i = true := by simpa using List.mem_of_getElem? hi
  rw [nextK_yes hc] at hK
  unfold guarded
  rw [hg]
  obtain ⟨hb, how, h0⟩ := h12
  refine op_rowStr s x ho hs hv how hst hm hn (Nat.le_trans hB hb.size) fun r' w' ho' hmv => ?_
  refine hK.out _ _ r' ⟨hmv, Nat.le_succ _, fun e => by omega⟩ ⟨belowMv hb (Nat.le_trans hB hb.size) hmv (fun g hg => (how.lt g hg).1), by rw [hLs]; exact ho', fun e => by omega⟩ ?_
  rw [hF]
  exact ⟨Nat.le_refl _, fun _ => rfl⟩
end
end Go.Proofs.YtdncljdfmdgdaaaGreatDoor

namespace Go.Proofs.YtdncljdfmdgdaaaGreatDoor
open Go.RowKit Go.Shelf
set_option linter.unusedSimpArgs false
set_option linter.unusedVariables false

def StI (S : World → Prop) : Nat → World → Value → Prop := fun _ w _ => S w
def StM : World → Value → Nat → World → Value → Nat → Prop := fun w _ _ w' _ _ => Below w.heap.size w w'
/-- A fact of a value and a world. -/
def WF (p : Value → World → Prop) : Value → World → Value → Nat → Prop := fun x w _ _ => p x w
theorem WF.stays {p : Value → World → Prop} (h : ∀ x w w', Below w.heap.size w w' → p x w → p x w') : Stays StM (WF p) := fun x w r k w' r' k' hm hh => h x w w' hm hh
theorem WF.row {l : List Lx.Bytes} : Stays StM (WF fun x w => StrRow w x l) := WF.stays fun _ _ _ h hh => hh.below h
theorem WF.tys {l : List Sx.Ty} : Stays StM (WF fun x w => TyRow w x l) := WF.stays fun _ _ _ h hh => hh.below h
end Go.Proofs.YtdncljdfmdgdaaaGreatDoor
