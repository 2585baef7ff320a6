/-
  What a law's arguments are, out of the row's condition.
-/
import Derived.Test.YtbhdkkkaeabkhaaGreatDoorLxJoin
import Derived.ChangeMaps5
import Derived.ChangeSame
import Derived.OpenShut
import Derived.ProofKit
namespace Go.Proofs.YtbhdkkkaeabkhaaGreatDoor
open Go.ChangeShapes Go.WideShapes Go.ChangeAt Go.RowKit
set_option linter.unusedSimpArgs false
set_option linter.unusedVariables false

theorem int_bounds {n : Int} (h : (Lit.int .i64 n).wf = true) : -9223372036854775808 ≤ n ∧ n ≤ 9223372036854775807 := by
  simp only [Lit.wf, Bool.and_eq_true, decide_eq_true_eq] at h
  exact h

theorem list_of_all {α : Type} {P : Nat → α → Prop} : ∀ (n : Nat), (∀ i, i < n → ∃ x, P i x) → ∃ l : List α, l.length = n ∧ ∀ i (h : i < l.length), P i (l[i]'h)
  | 0, _ => ⟨[], rfl, fun i h => by simp at h⟩
  | n + 1, h => by
    obtain ⟨l, hl, hp⟩ := list_of_all n (fun i hi => h i (by omega))
    obtain ⟨x, hx⟩ := h n (by omega)
    refine ⟨l ++ [x], by simp [hl], fun i hi => ?_⟩
    by_cases hin : i < l.length
    · rw [List.getElem_append_left hin]; exact hp i hin
    · have : i = n := by simp at hi; omega
      subst this
      rw [List.getElem_append_right (by omega)]
      simpa [hl] using hx

/-- A token at a place of a row. -/
def TokAt (w : World) (b o : Nat) (t : Lx.Tok) : Prop :=
  w.cell? ⟨b, o, none⟩ = some (.int .i64 t.pos) ∧ w.cell? ⟨b, o + 1, none⟩ = some (.int .i64 t.kind) ∧ w.cell? ⟨b, o + 2, none⟩ = some (.string ⟨t.s.toArray⟩) ∧ w.cell? ⟨b, o + 3, none⟩ = some (.int .i64 t.n) ∧
    -9223372036854775808 ≤ t.n ∧ t.n ≤ 9223372036854775807
/-- A row of tokens that came in. -/
def ToksArg (w : World) (v : Value) (ts : List Lx.Tok) : Prop :=
  ∃ a c, v = .slice a ts.length c ∧ ∀ m (h : m < ts.length), ∃ b off, a = some ⟨b, off, none⟩ ∧ TokAt w b (off + m * 4) (ts[m]'h)

theorem fT0 : (Tryz.prog.fieldsOf 26)[0]?.map (fun f => (f.type, f.offset)) = some (24, 0) := by kernel_rfl
theorem fT1 : (Tryz.prog.fieldsOf 26)[1]?.map (fun f => (f.type, f.offset)) = some (3, 1) := by kernel_rfl
theorem fT2 : (Tryz.prog.fieldsOf 26)[2]?.map (fun f => (f.type, f.offset)) = some (9, 2) := by kernel_rfl
theorem fT3 : (Tryz.prog.fieldsOf 26)[3]?.map (fun f => (f.type, f.offset)) = some (3, 3) := by kernel_rfl
theorem fP0 : (Tryz.prog.fieldsOf 24)[0]?.map (fun f => (f.type, f.offset)) = some (3, 0) := by kernel_rfl
theorem uT : Tryz.prog.underlying 26 = some (.struct (Tryz.prog.fieldsOf 26)) := by kernel_rfl
theorem uP : Tryz.prog.underlying 24 = some (.struct (Tryz.prog.fieldsOf 24)) := by kernel_rfl
theorem cT : Tryz.prog.cellsOf 26 = 4 := by kernel_rfl
theorem cP : Tryz.prog.cellsOf 24 = 1 := by kernel_rfl
theorem cI : Tryz.prog.cellsOf 3 = 1 := by kernel_rfl
theorem cS : Tryz.prog.cellsOf 9 = 1 := by kernel_rfl

set_option maxRecDepth 100000 in
theorem tok_of_trod {H : Type} {enc : TypeId × Value → H} {w : World} {sp : Nat → Bool} {held : Bool} {fuel : Nat} {a b c d : Value} {x : DataW H × List MemPlace}
    (h : DataW.trod enc Tryz.prog w 0 sp held fuel 26 [a, b, c, d] = some x) :
    ∃ t : Lx.Tok, a = .int .i64 t.pos ∧ b = .int .i64 t.kind ∧ c = .string ⟨t.s.toArray⟩ ∧ d = .int .i64 t.n ∧ -9223372036854775808 ≤ t.n ∧ t.n ≤ 9223372036854775807 := by
  obtain ⟨xs, n, _, _, hl, hlen, hf⟩ := DataW.trod_struct uT h
  have step : ∀ (i : Nat) (ty off : Nat), (Tryz.prog.fieldsOf 26)[i]?.map (fun f => (f.type, f.offset)) = some (ty, off) → ∃ y, DataW.trod enc Tryz.prog w 0 sp held n ty (([a, b, c, d].drop off).take (Tryz.prog.cellsOf ty)) = some y := by
    intro i ty off hi
    obtain ⟨f, hfi, he⟩ := Option.map_eq_some_iff.1 hi
    injection he with e1 e2
    have := hf i f hfi
    rw [e1, e2] at this
    have hil : i < xs.length := by rw [hlen]; exact (Array.getElem?_eq_some_iff.1 hfi).1
    rw [List.getElem?_eq_getElem hil] at this
    exact ⟨_, this⟩
  obtain ⟨y0, h0⟩ := step 0 _ _ fT0
  obtain ⟨y1, h1⟩ := step 1 _ _ fT1
  obtain ⟨y2, h2⟩ := step 2 _ _ fT2
  obtain ⟨y3, h3⟩ := step 3 _ _ fT3
  rw [cP] at h0
  rw [cI] at h1 h3
  rw [cS] at h2
  simp only [List.drop_zero, List.drop_succ_cons, List.take_succ_cons, List.take_zero] at h0 h1 h2 h3
  obtain ⟨k1, e1, _, _⟩ := DataW.trod_int Tryz.underlying3 h1
  obtain ⟨k3, e3, _, w3⟩ := DataW.trod_int Tryz.underlying3 h3
  obtain ⟨s2, e2, _, _⟩ := DataW.trod_string Tryz.underlying9 h2
  obtain ⟨xs', n', _, _, hl', hlen', hf'⟩ := DataW.trod_struct uP h0
  obtain ⟨f, hfi, he⟩ := Option.map_eq_some_iff.1 fP0
  injection he with q1 q2
  have h00 := hf' 0 f hfi
  have hil : 0 < xs'.length := by rw [hlen']; exact (Array.getElem?_eq_some_iff.1 hfi).1
  rw [q1, q2, cI, List.getElem?_eq_getElem hil] at h00
  simp only [List.drop_zero, List.take_succ_cons, List.take_zero] at h00
  obtain ⟨k0, e0, _, _⟩ := DataW.trod_int Tryz.underlying3 h00
  injection e0 with e0
  injection e1 with e1
  injection e2 with e2
  injection e3 with e3
  refine ⟨⟨k0, k1, s2.data.toList, k3⟩, e0, e1, ?_, e3, int_bounds w3⟩
  rw [mk_back]
  exact e2

theorem cells_four {w : World} {a : Addr} {cs : List Value} (h : w.cells? 0 a 4 = some cs) : ∃ p q r s, cs = [p, q, r, s] ∧ w.cell? (a.add 0) = some p ∧ w.cell? (a.add 1) = some q ∧ w.cell? (a.add 2) = some r ∧ w.cell? (a.add 3) = some s := by
  unfold World.cells? at h
  rw [if_pos (Nat.zero_le _)] at h
  have hr : List.range 4 = [0, 1, 2, 3] := by decide
  rw [hr] at h
  cases h0 : w.cell? (a.add 0) with
  | none => simp [List.mapM_cons, h0] at h
  | some p =>
    cases h1 : w.cell? (a.add 1) with
    | none => simp [List.mapM_cons, h0, h1] at h
    | some q =>
      cases h2 : w.cell? (a.add 2) with
      | none => simp [List.mapM_cons, h0, h1, h2] at h
      | some r =>
        cases h3 : w.cell? (a.add 3) with
        | none => simp [List.mapM_cons, h0, h1, h2, h3] at h
        | some s =>
          simp [List.mapM_cons, h0, h1, h2, h3] at h
          exact ⟨p, q, r, s, h.symm, rfl, rfl, rfl, rfl⟩

theorem add_none (b off n : Nat) : (⟨b, off, none⟩ : Addr).add n = ⟨b, off + n, none⟩ := by
  unfold Addr.add
  split <;> simp_all
set_option maxRecDepth 100000 in
theorem open_toks {H : Type} {enc : TypeId × Value → H} {W : World} {base : Nat} {v : Value} {d : DataW H} {p : List MemPlace} {sp : Nat → Bool} {held : Bool} (hval : Value.okWide Tryz.prog W .any base 28 v) (hd : DataW.Trod enc Tryz.prog W 0 sp held 28 v d p) :
    ∃ ts, ToksArg W v ts := by
  obtain ⟨a0, len, cap, rfl⟩ := okWide_slice Tryz.underlying28 hval
  obtain ⟨fuel, hf⟩ := hd
  have hf' : DataW.trod enc Tryz.prog W 0 sp held fuel 28 [.slice a0 len cap] = some (d, p) := hf
  rcases DataW.trod_slice Tryz.underlying28 hf' with ⟨hcs, _⟩ | ⟨a, len', cap', elems, rest, n, _, hcs, _, _, _, _, hlen, hel, _⟩
  · injection hcs with hcs _
    injection hcs with h1 h2 h3
    subst h1 h2 h3
    exact ⟨[], none, 0, rfl, fun m h => by simp at h⟩
  · injection hcs with hcs _
    injection hcs with h1 h2 h3
    subst h1 h2 h3
    rw [cT] at hel
    have raw : ∀ i, i < len → ∃ t : Lx.Tok, W.cell? ((a.add (i * 4)).add 0) = some (.int .i64 t.pos) ∧ W.cell? ((a.add (i * 4)).add 1) = some (.int .i64 t.kind) ∧ W.cell? ((a.add (i * 4)).add 2) = some (.string ⟨t.s.toArray⟩) ∧ W.cell? ((a.add (i * 4)).add 3) = some (.int .i64 t.n) ∧
        -9223372036854775808 ≤ t.n ∧ t.n ≤ 9223372036854775807 := by
      intro i hi
      have he := hel i hi
      rw [List.getElem?_eq_getElem (by omega)] at he
      obtain ⟨cs, hc, ht⟩ := Option.bind_eq_some_iff.1 he
      obtain ⟨c0, c1, c2, c3, rfl, k0, k1, k2, k3⟩ := cells_four hc
      obtain ⟨t, rfl, rfl, rfl, rfl, b1, b2⟩ := tok_of_trod ht
      exact ⟨t, k0, k1, k2, k3, b1, b2⟩
    have key : ∀ i, i < len → ∃ t : Lx.Tok, ∃ b off, some a = some (⟨b, off, none⟩ : Addr) ∧ TokAt W b (off + i * 4) t := by
      intro i hi
      obtain ⟨t0, h0, _⟩ := raw 0 (by omega)
      obtain ⟨b, off, spot⟩ := a
      have hspot : spot = none := by simpa [Addr.add] using World.cell?_spot h0
      subst hspot
      obtain ⟨t, k0, k1, k2, k3, b1, b2⟩ := raw i hi
      rw [add_none, add_none] at k0 k1 k2 k3
      exact ⟨t, b, off, rfl, k0, k1, k2, k3, b1, b2⟩
    obtain ⟨ts, hl, hp⟩ := list_of_all len key
    refine ⟨ts, some a, cap, by rw [hl], fun m h => hp m h⟩

end Go.Proofs.YtbhdkkkaeabkhaaGreatDoor
