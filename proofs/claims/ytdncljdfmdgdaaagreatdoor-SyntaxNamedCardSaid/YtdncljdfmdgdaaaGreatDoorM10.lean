/-
  The end of every law of this chapter: true, and the arguments as they were.
  What a law's arguments are, out of the row's condition.
  A row of bytes that came in.
  Chapter 2 in plain Lean: trees of types, what syntax tells of them. No program in sight.
  Types in memory.
  Plain laws: a type's size bounds whatever is counted of it.
-/
import Derived.Test.YtdncljdfmdgdaaaGreatDoorM9
import Derived.Test.YtdncljdfmdgdaaaGreatDoorM8
import Derived.ChangeMaps5
import Derived.ChangeSame
import Derived.OpenShut
import Derived.ProofKit
import Derived.Test.YtdncljdfmdgdaaaGreatDoorM1
namespace Go.Proofs.YtdncljdfmdgdaaaGreatDoor
open Go Go.ChangeShapes Go.WideShapes Go.ChangeAt Go.RowKit
set_option linter.unusedSimpArgs false
set_option linter.unusedVariables false

set_option maxRecDepth 100000 in
theorem laidOutK : laidOutB Tryz.prog = true := by kernel_rfl

theorem trodAll_below {H : Type} {enc : TypeId × Value → H} {P : Program} (hl : laidOutB P = true) {W W' : World} (hb : Below W.heap.size W W') : ∀ {ts : List TypeId} {vs : List Value} {ds : List (DataW H)} {p : List MemPlace},
    (ts.all fun t => P.readableRec t && decide (t < P.types.size)) = true → DataW.TrodAll enc P W 0 (fun _ => true) true ts vs ds p → (∀ x ∈ p, x.block < W.heap.size) →
    DataW.TrodAll enc P W' 0 (fun b => decide (b < W.heap.size)) true ts vs ds p := by
  intro ts
  induction ts with
  | nil =>
    intro vs ds p _ h _
    obtain ⟨rfl, rfl, rfl⟩ := trodAll_nil h
    exact trodAll_mk0
  | cons t ts ih =>
    intro vs ds p ht h hlt
    obtain ⟨v, vs', d, ds', p1, p2, rfl, rfl, rfl, h1, h2⟩ := trodAll_cons h
    rw [List.all_cons, Bool.and_eq_true, Bool.and_eq_true] at ht
    exact ⟨p1, p2, Below.trod hl ht.1.1 (of_decide_eq_true ht.1.2) h1 hb (fun x hx => hlt x (by simp [hx])), ih ht.2 h2 (fun x hx => hlt x (by simp [hx])), rfl⟩

/-- The law's end: true, and each argument reads as it did. -/
theorem finish {H : Type} {enc : TypeId × Value → H} {f : Func} {s : ChangeSpec} {W W' : World} {args : Array Value} {ds : List (DataW H)} {before : List MemPlace}
    (hv : s.vars = []) (hr : f.resultTypes = #[4]) (hps : (f.params.toList.all fun t => Tryz.prog.readableRec t && decide (t < Tryz.prog.types.size)) = true)
    (hfn : s.fn H ds = { results := [.lit (.bool true)], args := ds })
    (hW : DataW.Whole enc Tryz.prog f.params.toList s.vars false W args.toList ds [] before) (hb : Below W.heap.size W W') :
    s.post enc Tryz.prog f false true false false W args (.bool true) W' := by
  have hW' := hW
  obtain ⟨p, q, hA, hV, rfl, hz, hn⟩ := hW
  rw [hv] at hV
  obtain rfl : q = [] := hV
  have hlt : ∀ x ∈ p, x.block < W.heap.size := fun x hx => by simpa using hW'.lt x (by simpa using hx)
  have e : s.fn H (ds ++ []) = { results := [.lit (.bool true)], args := ds } := by rw [List.append_nil]; exact hfn
  refine ⟨ds, [], _, [], p, [], hW', ?_, ?_, ?_, hb.frame _, fun h => by cases h⟩
  · rw [e, hr]; exact trodAll_mk1 (shut_bool Tryz.underlying4 true)
  · rw [e]; exact trodAll_below laidOutK hb hps hA hlt
  · rw [e, hv]; rfl

end Go.Proofs.YtdncljdfmdgdaaaGreatDoor

namespace Go.Proofs.YtdncljdfmdgdaaaGreatDoor
open Go.ChangeShapes Go.WideShapes Go.ChangeAt Go.RowKit
set_option linter.unusedSimpArgs false
set_option linter.unusedVariables false

theorem int_bounds {n : Int} (h : (Lit.int .i64 n).wf = true) : -9223372036854775808 ≤ n ∧ n ≤ 9223372036854775807 := by
  simp only [Lit.wf, Bool.and_eq_true, decide_eq_true_eq] at h
  exact h

theorem list_of_all {α : Type} {P : Nat → α → Prop} : ∀ (n : Nat), (∀ i, i < n → ∃ x, P i x) → ∃ l : List α, l.length = n ∧ ∀ i (h : i < l.length), P i (l[i]'h)
  | 0, _ => ⟨[], rfl, fun i h => by simp at h⟩
  | n + 1, h => by
    obtain ⟨l, hl, hp⟩ := list_of_all n (fun i hi => h i (by omega))
    obtain ⟨x, hx⟩ := h n (by omega)
    refine ⟨l ++ [x], by simp [hl], fun i hi => ?_⟩
    by_cases hin : i < l.length
    · rw [List.getElem_append_left hin]; exact hp i hin
    · have : i = n := by simp at hi; omega
      subst this
      rw [List.getElem_append_right (by omega)]
      simpa [hl] using hx

/-- A token at a place of a row. -/
def TokAt (w : World) (b o : Nat) (t : Lx.Tok) : Prop :=
  w.cell? ⟨b, o, none⟩ = some (.int .i64 t.pos) ∧ w.cell? ⟨b, o + 1, none⟩ = some (.int .i64 t.kind) ∧ w.cell? ⟨b, o + 2, none⟩ = some (.string ⟨t.s.toArray⟩) ∧ w.cell? ⟨b, o + 3, none⟩ = some (.int .i64 t.n) ∧
    -9223372036854775808 ≤ t.n ∧ t.n ≤ 9223372036854775807
/-- A row of tokens that came in. -/
def ToksArg (w : World) (v : Value) (ts : List Lx.Tok) : Prop :=
  ∃ a c, v = .slice a ts.length c ∧ ∀ m (h : m < ts.length), ∃ b off, a = some ⟨b, off, none⟩ ∧ TokAt w b (off + m * 4) (ts[m]'h)

theorem fT0 : (Tryz.prog.fieldsOf 133)[0]?.map (fun f => (f.type, f.offset)) = some (36, 0) := by kernel_rfl
theorem fT1 : (Tryz.prog.fieldsOf 133)[1]?.map (fun f => (f.type, f.offset)) = some (3, 1) := by kernel_rfl
theorem fT2 : (Tryz.prog.fieldsOf 133)[2]?.map (fun f => (f.type, f.offset)) = some (9, 2) := by kernel_rfl
theorem fT3 : (Tryz.prog.fieldsOf 133)[3]?.map (fun f => (f.type, f.offset)) = some (3, 3) := by kernel_rfl
theorem fP0 : (Tryz.prog.fieldsOf 36)[0]?.map (fun f => (f.type, f.offset)) = some (3, 0) := by kernel_rfl
theorem uT : Tryz.prog.underlying 133 = some (.struct (Tryz.prog.fieldsOf 133)) := by kernel_rfl
theorem uP : Tryz.prog.underlying 36 = some (.struct (Tryz.prog.fieldsOf 36)) := by kernel_rfl
theorem cT : Tryz.prog.cellsOf 133 = 4 := by kernel_rfl
theorem cP : Tryz.prog.cellsOf 36 = 1 := by kernel_rfl
theorem cI : Tryz.prog.cellsOf 3 = 1 := by kernel_rfl
theorem cS : Tryz.prog.cellsOf 9 = 1 := by kernel_rfl

set_option maxRecDepth 100000 in
theorem tok_of_trod {H : Type} {enc : TypeId × Value → H} {w : World} {sp : Nat → Bool} {held : Bool} {fuel : Nat} {a b c d : Value} {x : DataW H × List MemPlace}
    (h : DataW.trod enc Tryz.prog w 0 sp held fuel 133 [a, b, c, d] = some x) :
    ∃ t : Lx.Tok, a = .int .i64 t.pos ∧ b = .int .i64 t.kind ∧ c = .string ⟨t.s.toArray⟩ ∧ d = .int .i64 t.n ∧ -9223372036854775808 ≤ t.n ∧ t.n ≤ 9223372036854775807 := by
  obtain ⟨xs, n, _, _, hl, hlen, hf⟩ := DataW.trod_struct uT h
  have step : ∀ (i : Nat) (ty off : Nat), (Tryz.prog.fieldsOf 133)[i]?.map (fun f => (f.type, f.offset)) = some (ty, off) → ∃ y, DataW.trod enc Tryz.prog w 0 sp held n ty (([a, b, c, d].drop off).take (Tryz.prog.cellsOf ty)) = some y := by
    intro i ty off hi
    obtain ⟨f, hfi, he⟩ := Option.map_eq_some_iff.1 hi
    injection he with e1 e2
    have := hf i f hfi
    rw [e1, e2] at this
    have hil : i < xs.length := by rw [hlen]; exact (Array.getElem?_eq_some_iff.1 hfi).1
    rw [List.getElem?_eq_getElem hil] at this
    exact ⟨_, this⟩
  obtain ⟨y0, h0⟩ := step 0 _ _ fT0
  obtain ⟨y1, h1⟩ := step 1 _ _ fT1
  obtain ⟨y2, h2⟩ := step 2 _ _ fT2
  obtain ⟨y3, h3⟩ := step 3 _ _ fT3
  rw [cP] at h0
  rw [cI] at h1 h3
  rw [cS] at h2
  simp only [List.drop_zero, List.drop_succ_cons, List.take_succ_cons, List.take_zero] at h0 h1 h2 h3
  obtain ⟨k1, e1, _, _⟩ := DataW.trod_int Tryz.underlying3 h1
  obtain ⟨k3, e3, _, w3⟩ := DataW.trod_int Tryz.underlying3 h3
  obtain ⟨s2, e2, _, _⟩ := DataW.trod_string Tryz.underlying9 h2
  obtain ⟨xs', n', _, _, hl', hlen', hf'⟩ := DataW.trod_struct uP h0
  obtain ⟨f, hfi, he⟩ := Option.map_eq_some_iff.1 fP0
  injection he with q1 q2
  have h00 := hf' 0 f hfi
  have hil : 0 < xs'.length := by rw [hlen']; exact (Array.getElem?_eq_some_iff.1 hfi).1
  rw [q1, q2, cI, List.getElem?_eq_getElem hil] at h00
  simp only [List.drop_zero, List.take_succ_cons, List.take_zero] at h00
  obtain ⟨k0, e0, _, _⟩ := DataW.trod_int Tryz.underlying3 h00
  injection e0 with e0
  injection e1 with e1
  injection e2 with e2
  injection e3 with e3
  refine ⟨⟨k0, k1, s2.data.toList, k3⟩, e0, e1, ?_, e3, int_bounds w3⟩
  rw [mk_back]
  exact e2

theorem cells_four {w : World} {a : Addr} {cs : List Value} (h : w.cells? 0 a 4 = some cs) : ∃ p q r s, cs = [p, q, r, s] ∧ w.cell? (a.add 0) = some p ∧ w.cell? (a.add 1) = some q ∧ w.cell? (a.add 2) = some r ∧ w.cell? (a.add 3) = some s := by
  unfold World.cells? at h
  rw [if_pos (Nat.zero_le _)] at h
  have hr : List.range 4 = [0, 1, 2, 3] := by decide
  rw [hr] at h
  cases h0 : w.cell? (a.add 0) with
  | none => simp [List.mapM_cons, h0] at h
  | some p =>
    cases h1 : w.cell? (a.add 1) with
    | none => simp [List.mapM_cons, h0, h1] at h
    | some q =>
      cases h2 : w.cell? (a.add 2) with
      | none => simp [List.mapM_cons, h0, h1, h2] at h
      | some r =>
        cases h3 : w.cell? (a.add 3) with
        | none => simp [List.mapM_cons, h0, h1, h2, h3] at h
        | some s =>
          simp [List.mapM_cons, h0, h1, h2, h3] at h
          exact ⟨p, q, r, s, h.symm, rfl, rfl, rfl, rfl⟩

theorem add_none (b off n : Nat) : (⟨b, off, none⟩ : Addr).add n = ⟨b, off + n, none⟩ := by
  unfold Addr.add
  split <;> simp_all
set_option maxRecDepth 100000 in
theorem open_toks {H : Type} {enc : TypeId × Value → H} {W : World} {base : Nat} {v : Value} {d : DataW H} {p : List MemPlace} {sp : Nat → Bool} {held : Bool} (hval : Value.okWide Tryz.prog W .any base 73 v) (hd : DataW.Trod enc Tryz.prog W 0 sp held 73 v d p) :
    ∃ ts, ToksArg W v ts := by
  obtain ⟨a0, len, cap, rfl⟩ := okWide_slice Tryz.underlying73 hval
  obtain ⟨fuel, hf⟩ := hd
  have hf' : DataW.trod enc Tryz.prog W 0 sp held fuel 73 [.slice a0 len cap] = some (d, p) := hf
  rcases DataW.trod_slice Tryz.underlying73 hf' with ⟨hcs, _⟩ | ⟨a, len', cap', elems, rest, n, _, hcs, _, _, _, _, hlen, hel, _⟩
  · injection hcs with hcs _
    injection hcs with h1 h2 h3
    subst h1 h2 h3
    exact ⟨[], none, 0, rfl, fun m h => by simp at h⟩
  · injection hcs with hcs _
    injection hcs with h1 h2 h3
    subst h1 h2 h3
    rw [cT] at hel
    have raw : ∀ i, i < len → ∃ t : Lx.Tok, W.cell? ((a.add (i * 4)).add 0) = some (.int .i64 t.pos) ∧ W.cell? ((a.add (i * 4)).add 1) = some (.int .i64 t.kind) ∧ W.cell? ((a.add (i * 4)).add 2) = some (.string ⟨t.s.toArray⟩) ∧ W.cell? ((a.add (i * 4)).add 3) = some (.int .i64 t.n) ∧
        -9223372036854775808 ≤ t.n ∧ t.n ≤ 9223372036854775807 := by
      intro i hi
      have he := hel i hi
      rw [List.getElem?_eq_getElem (by omega)] at he
      obtain ⟨cs, hc, ht⟩ := Option.bind_eq_some_iff.1 he
      obtain ⟨c0, c1, c2, c3, rfl, k0, k1, k2, k3⟩ := cells_four hc
      obtain ⟨t, rfl, rfl, rfl, rfl, b1, b2⟩ := tok_of_trod ht
      exact ⟨t, k0, k1, k2, k3, b1, b2⟩
    have key : ∀ i, i < len → ∃ t : Lx.Tok, ∃ b off, some a = some (⟨b, off, none⟩ : Addr) ∧ TokAt W b (off + i * 4) t := by
      intro i hi
      obtain ⟨t0, h0, _⟩ := raw 0 (by omega)
      obtain ⟨b, off, spot⟩ := a
      have hspot : spot = none := by simpa [Addr.add] using World.cell?_spot h0
      subst hspot
      obtain ⟨t, k0, k1, k2, k3, b1, b2⟩ := raw i hi
      rw [add_none, add_none] at k0 k1 k2 k3
      exact ⟨t, b, off, rfl, k0, k1, k2, k3, b1, b2⟩
    obtain ⟨ts, hl, hp⟩ := list_of_all len key
    refine ⟨ts, some a, cap, by rw [hl], fun m h => hp m h⟩

end Go.Proofs.YtdncljdfmdgdaaaGreatDoor

namespace Go.Proofs.YtdncljdfmdgdaaaGreatDoor
open Go.ChangeShapes Go.WideShapes Go.ChangeAt Go.RowKit
set_option linter.unusedSimpArgs false
set_option linter.unusedVariables false

def BytesArg (w : World) (v : Value) (bs : List UInt8) : Prop :=
  ∃ a c, v = .slice a bs.length c ∧ bs.length ≤ 9223372036854775807 ∧ ∀ m (h : m < bs.length), ∃ b off, a = some ⟨b, off, none⟩ ∧ w.cell? ⟨b, off + m, none⟩ = some (.int .u8 (((bs[m]'h).toNat : Nat) : Int))
theorem cU8 : Tryz.prog.cellsOf 5 = 1 := by kernel_rfl
theorem cells_one {w : World} {a : Addr} {cs : List Value} (h : w.cells? 0 a 1 = some cs) : ∃ p, cs = [p] ∧ w.cell? (a.add 0) = some p := by
  unfold World.cells? at h
  rw [if_pos (Nat.zero_le _)] at h
  have hr : List.range 1 = [0] := by decide
  rw [hr] at h
  cases h0 : w.cell? (a.add 0) with
  | none => simp [List.mapM_cons, h0] at h
  | some p =>
    simp [List.mapM_cons, h0] at h
    exact ⟨p, h.symm, rfl⟩
set_option maxRecDepth 100000 in
theorem open_bytes {H : Type} {enc : TypeId × Value → H} {W : World} {base : Nat} {v : Value} {d : DataW H} {p : List MemPlace} {sp : Nat → Bool} {held : Bool} (hval : Value.okWide Tryz.prog W .any base 98 v) (hd : DataW.Trod enc Tryz.prog W 0 sp held 98 v d p) :
    ∃ bs, BytesArg W v bs := by
  obtain ⟨a0, len, cap, rfl⟩ := okWide_slice Tryz.underlying98 hval
  obtain ⟨fuel, hf⟩ := hd
  have hf' : DataW.trod enc Tryz.prog W 0 sp held fuel 98 [.slice a0 len cap] = some (d, p) := hf
  rcases DataW.trod_slice Tryz.underlying98 hf' with ⟨hcs, _⟩ | ⟨a, len', cap', elems, rest, n, _, hcs, _, _, hlc, hcm, hlen, hel, _⟩
  · injection hcs with hcs _
    injection hcs with h1 h2 h3
    subst h1 h2 h3
    exact ⟨[], none, 0, rfl, by simp, fun m h => by simp at h⟩
  · injection hcs with hcs _
    injection hcs with h1 h2 h3
    subst h1 h2 h3
    rw [cU8] at hel
    have raw : ∀ i, i < len → ∃ c : UInt8, W.cell? ((a.add (i * 1)).add 0) = some (.int .u8 ((c.toNat : Nat) : Int)) := by
      intro i hi
      have he := hel i hi
      rw [List.getElem?_eq_getElem (by omega)] at he
      obtain ⟨cs, hc, ht⟩ := Option.bind_eq_some_iff.1 he
      obtain ⟨c0, rfl, k0⟩ := cells_one hc
      obtain ⟨n', e1, _, w1⟩ := DataW.trod_int Tryz.underlying5 ht
      injection e1 with e1
      subst e1
      have hw : 0 ≤ n' ∧ n' ≤ 255 := by
        simp only [Lit.wf, Bool.and_eq_true, decide_eq_true_eq] at w1
        exact w1
      refine ⟨UInt8.ofNat n'.toNat, ?_⟩
      have hn : (UInt8.ofNat n'.toNat).toNat = n'.toNat := by rw [UInt8.toNat_ofNat', Nat.mod_eq_of_lt (by omega)]
      rw [hn, k0]
      congr 2
      omega
    have key : ∀ i, i < len → ∃ c : UInt8, ∃ b off, some a = some (⟨b, off, none⟩ : Addr) ∧ W.cell? ⟨b, off + i, none⟩ = some (.int .u8 ((c.toNat : Nat) : Int)) := by
      intro i hi
      obtain ⟨c0, h0⟩ := raw 0 (by omega)
      obtain ⟨b, off, spot⟩ := a
      have hspot : spot = none := by simpa [Addr.add] using World.cell?_spot h0
      subst hspot
      obtain ⟨c, k0⟩ := raw i hi
      rw [add_none, add_none] at k0
      exact ⟨c, b, off, rfl, by simpa using k0⟩
    obtain ⟨bs, hl, hp⟩ := list_of_all len key
    refine ⟨bs, some a, cap, by rw [hl], by unfold maxLen at hcm; omega, fun m h => hp m h⟩

end Go.Proofs.YtdncljdfmdgdaaaGreatDoor

namespace Go.Proofs.YtdncljdfmdgdaaaGreatDoor.Sx
open Go.Proofs.YtdncljdfmdgdaaaGreatDoor.Lx (Bytes)

/-- A type expression. -/
inductive Ty where
  | mk (kind : Int) (name : Bytes) (names : List Bytes) (embeds : List Bool) (parts : List Ty)
def Ty.kind : Ty → Int | .mk k _ _ _ _ => k
def Ty.name : Ty → Bytes | .mk _ n _ _ _ => n
def Ty.names : Ty → List Bytes | .mk _ _ ns _ _ => ns
def Ty.embeds : Ty → List Bool | .mk _ _ _ es _ => es
def Ty.parts : Ty → List Ty | .mk _ _ _ _ ps => ps

mutual
/-- How many levels. -/
def depth : Ty → Nat
  | .mk _ _ _ _ ps => 1 + depthL ps
def depthL : List Ty → Nat
  | [] => 0
  | t :: l => max (depth t) (depthL l)
end
mutual
/-- How many parts but names. -/
def nodes : Ty → Nat
  | .mk k _ _ _ ps => (if k = 4 then 0 else 1) + nodesL ps
def nodesL : List Ty → Nat
  | [] => 0
  | t :: l => nodes t + nodesL l
end
mutual
/-- The names in a type, as they come. -/
def allNames : Ty → List Bytes
  | .mk k n _ _ ps => (if k = 4 then [n] else []) ++ allNamesL ps
def allNamesL : List Ty → List Bytes
  | [] => []
  | t :: l => allNames t ++ allNamesL l
end
/-- Each once, in the order in which they first come. -/
def once : List Bytes → List Bytes → List Bytes
  | acc, [] => acc
  | acc, s :: l => if acc.contains s then once acc l else once (acc ++ [s]) l
mutual
/-- coilkeep's size, with no limit. -/
def size : Ty → Nat
  | .mk _ n ns es ps => 1 + n.length + ns.length + es.length + (ns.map List.length).sum + sizeL ps
def sizeL : List Ty → Nat
  | [] => 0
  | t :: l => size t + sizeL l
end
theorem depth_pos (t : Ty) : 0 < depth t := by cases t; rw [depth]; omega
theorem depth_mem : ∀ {l : List Ty} {t : Ty}, t ∈ l → depth t ≤ depthL l
  | u :: l, t, h => by
    rw [depthL]
    rcases List.mem_cons.1 h with rfl | h
    · omega
    · have := depth_mem h; omega
theorem depth_parts (t : Ty) : depth t = 1 + depthL t.parts := by cases t; rw [depth]; rfl
theorem nodes_parts (t : Ty) : nodes t = (if t.kind = 4 then 0 else 1) + nodesL t.parts := by cases t; rw [nodes]; rfl
theorem names_parts (t : Ty) : allNames t = (if t.kind = 4 then [t.name] else []) ++ allNamesL t.parts := by cases t; rw [allNames]; rfl
theorem nodes_mem : ∀ {l : List Ty} {t : Ty}, t ∈ l → nodes t ≤ nodesL l
  | u :: l, t, h => by
    rw [nodesL]
    rcases List.mem_cons.1 h with rfl | h
    · omega
    · have := nodes_mem h; omega
theorem nodesL_append : ∀ (l m : List Ty), nodesL (l ++ m) = nodesL l + nodesL m
  | [], m => by simp [nodesL]
  | t :: l, m => by rw [List.cons_append, nodesL, nodesL, nodesL_append l m]; omega
theorem depthL_append : ∀ (l m : List Ty), depthL (l ++ m) = max (depthL l) (depthL m)
  | [], m => by simp [depthL]
  | t :: l, m => by rw [List.cons_append, depthL, depthL, depthL_append l m]; omega
theorem namesL_append : ∀ (l m : List Ty), allNamesL (l ++ m) = allNamesL l ++ allNamesL m
  | [], m => by simp [allNamesL]
  | t :: l, m => by rw [List.cons_append, allNamesL, allNamesL, namesL_append l m, List.append_assoc]
theorem once_append : ∀ (a l m : List Bytes), once a (l ++ m) = once (once a l) m
  | a, [], m => rfl
  | a, s :: l, m => by
    rw [List.cons_append, once, once]
    split
    · exact once_append a l m
    · exact once_append _ l m

/-! ### what is written -/
/-- A writer: what stands in its text, how many tokens it was given. -/
structure Wr where
  b : Bytes
  n : Nat
def put (w : Wr) (s : Bytes) : Wr := ⟨if 65536 < w.b.length then w.b else (if 0 < w.b.length then w.b ++ [32] else w.b) ++ s, w.n + 1⟩
def puts (w : Wr) (l : List Bytes) : Wr := l.foldl put w
theorem puts_append (w : Wr) (l m : List Bytes) : puts w (l ++ m) = puts (puts w l) m := by unfold puts; rw [List.foldl_append]
/-- What it tells. -/
def told (right : Bool) (w : Wr) : Bytes × Nat :=
  if !right then ([], 1) else if 65536 < w.b.length then ([], 2) else if 4096 < w.n then ([], 3) else (w.b, 0)

mutual
/-- A type's tokens: of a right one. -/
def typ : Ty → List Bytes
  | .mk k n ns es ps =>
    if k = 1 then [[105, 110, 116]]
    else if k = 2 then [[98, 111, 111, 108]]
    else if k = 3 then [[116, 101, 120, 116]]
    else if k = 4 then [n]
    else if k = 5 then [42] :: typL ps
    else if k = 6 then [[123]] ++ fields ns es ps ++ [[125]]
    else if k = 7 then [[102, 110]] ++ ([[40]] ++ params 0 ps)
    else if k = 8 then [[105, 110, 116, 101, 114, 102, 97, 99, 101], [123]] ++ methods ns ps ++ [[125]]
    else []
/-- The first one alone. -/
def typL : List Ty → List Bytes
  | [] => []
  | t :: _ => typ t
def fields : List Bytes → List Bool → List Ty → List Bytes
  | n :: ns, e :: es, t :: ps => (if e then [[101, 109, 98, 101, 100]] else []) ++ ([n] ++ typ t ++ [[59]]) ++ fields ns es ps
  | _, _, _ => []
/-- Parameters, and the result behind the bracket. -/
def params : Nat → List Ty → List Bytes
  | _, [] => []
  | i, t :: l => if l.isEmpty then [[41]] ++ typ t else (if 0 < i then [[44]] else []) ++ typ t ++ params (i + 1) l
def methods : List Bytes → List Ty → List Bytes
  | n :: ns, t :: ps => [n] ++ signature t ++ [[59]] ++ methods ns ps
  | _, _ => []
def signature : Ty → List Bytes
  | .mk _ _ _ _ ps => [[40]] ++ params 0 ps
end

end Go.Proofs.YtdncljdfmdgdaaaGreatDoor.Sx

namespace Go.Proofs.YtdncljdfmdgdaaaGreatDoor
open Go.RowKit
set_option linter.unusedSimpArgs false
set_option linter.unusedVariables false

/-- A row of texts, wherever it begins. -/
def StrRow (W : World) (v : Value) (ns : List Lx.Bytes) : Prop :=
  ∃ A c, v = .slice A ns.length c ∧ ∀ i (h : i < ns.length), ∃ g off, A = some ⟨g, off, none⟩ ∧ W.cell? ⟨g, off + i, none⟩ = some (.string ⟨(ns[i]'h).toArray⟩)
def BoolRow (W : World) (v : Value) (es : List Bool) : Prop :=
  ∃ A c, v = .slice A es.length c ∧ ∀ i (h : i < es.length), ∃ g off, A = some ⟨g, off, none⟩ ∧ W.cell? ⟨g, off + i, none⟩ = some (.bool (es[i]'h))
mutual
/-- A type's value. -/
def IsTy (W : World) : Value → Sx.Ty → Prop
  | v, .mk k nm ns es ps => ∃ vn ve A c, v = .agg #[.int .i64 k, .string ⟨nm.toArray⟩, vn, ve, .slice A ps.length c] ∧ StrRow W vn ns ∧ BoolRow W ve es ∧ ps.length ≤ c ∧ IsTys W A 0 ps
/-- A row of types from a place on. -/
def IsTys (W : World) (A : Option Addr) : Nat → List Sx.Ty → Prop
  | _, [] => True
  | i, t :: l => (∃ g off v0 v1 v2 v3 v4, A = some ⟨g, off, none⟩ ∧ W.cell? ⟨g, off + i * 5, none⟩ = some v0 ∧ W.cell? ⟨g, off + i * 5 + 1, none⟩ = some v1 ∧ W.cell? ⟨g, off + i * 5 + 2, none⟩ = some v2 ∧
      W.cell? ⟨g, off + i * 5 + 3, none⟩ = some v3 ∧ W.cell? ⟨g, off + i * 5 + 4, none⟩ = some v4 ∧ IsTy W (.agg #[v0, v1, v2, v3, v4]) t) ∧ IsTys W A (i + 1) l
end
/-- A slice of types. -/
def TyRow (W : World) (v : Value) (l : List Sx.Ty) : Prop := ∃ A c, v = .slice A l.length c ∧ l.length ≤ c ∧ IsTys W A 0 l

theorem StrRow.below {W W' : World} {v : Value} {ns : List Lx.Bytes} (h : StrRow W v ns) (hb : Below W.heap.size W W') : StrRow W' v ns := by
  obtain ⟨A, c, rfl, hi⟩ := h
  refine ⟨A, c, rfl, fun i hl => ?_⟩
  obtain ⟨g, off, hA, hc⟩ := hi i hl
  exact ⟨g, off, hA, (World.cell?_of_block (hb.block g (World.block_lt_of_cell? W ⟨g, off + i, none⟩ hc))).trans hc⟩
theorem BoolRow.below {W W' : World} {v : Value} {es : List Bool} (h : BoolRow W v es) (hb : Below W.heap.size W W') : BoolRow W' v es := by
  obtain ⟨A, c, rfl, hi⟩ := h
  refine ⟨A, c, rfl, fun i hl => ?_⟩
  obtain ⟨g, off, hA, hc⟩ := hi i hl
  exact ⟨g, off, hA, (World.cell?_of_block (hb.block g (World.block_lt_of_cell? W ⟨g, off + i, none⟩ hc))).trans hc⟩
mutual
theorem IsTy.below {W W' : World} (hb : Below W.heap.size W W') : ∀ (t : Sx.Ty) (v : Value), IsTy W v t → IsTy W' v t
  | .mk k nm ns es ps, v, h => by
    rw [IsTy] at h ⊢
    obtain ⟨vn, ve, A, c, hv, h1, h2, h4, h3⟩ := h
    exact ⟨vn, ve, A, c, hv, h1.below hb, h2.below hb, h4, IsTys.below hb ps A 0 h3⟩
theorem IsTys.below {W W' : World} (hb : Below W.heap.size W W') : ∀ (l : List Sx.Ty) (A : Option Addr) (i : Nat), IsTys W A i l → IsTys W' A i l
  | [], A, i, h => by rw [IsTys]; trivial
  | t :: l, A, i, h => by
    rw [IsTys] at h ⊢
    obtain ⟨⟨g, off, v0, v1, v2, v3, v4, hA, h0, h1, h2, h3, h4, ht⟩, hl⟩ := h
    have hc : ∀ {j : Nat} {u : Value}, W.cell? ⟨g, j, none⟩ = some u → W'.cell? ⟨g, j, none⟩ = some u := fun {j u} hj => (World.cell?_of_block (hb.block g (World.block_lt_of_cell? W ⟨g, j, none⟩ hj))).trans hj
    exact ⟨⟨g, off, v0, v1, v2, v3, v4, hA, hc h0, hc h1, hc h2, hc h3, hc h4, IsTy.below hb t _ ht⟩, IsTys.below hb l A (i + 1) hl⟩
end
theorem TyRow.below {W W' : World} {v : Value} {l : List Sx.Ty} (h : TyRow W v l) (hb : Below W.heap.size W W') : TyRow W' v l := by
  obtain ⟨A, c, rfl, hc, hl⟩ := h
  exact ⟨A, c, rfl, hc, IsTys.below hb l A 0 hl⟩
/-- One of the row. -/
theorem IsTys.at {W : World} {A : Option Addr} : ∀ {l : List Sx.Ty} {k : Nat}, IsTys W A k l → ∀ (m : Nat) (h : m < l.length), ∃ g off v0 v1 v2 v3 v4, A = some ⟨g, off, none⟩ ∧ W.cell? ⟨g, off + (k + m) * 5, none⟩ = some v0 ∧ W.cell? ⟨g, off + (k + m) * 5 + 1, none⟩ = some v1 ∧
    W.cell? ⟨g, off + (k + m) * 5 + 2, none⟩ = some v2 ∧ W.cell? ⟨g, off + (k + m) * 5 + 3, none⟩ = some v3 ∧ W.cell? ⟨g, off + (k + m) * 5 + 4, none⟩ = some v4 ∧ IsTy W (.agg #[v0, v1, v2, v3, v4]) (l[m]'h)
  | t :: l, k, h, 0, hm => by rw [IsTys] at h; exact h.1
  | t :: l, k, h, m + 1, hm => by
    rw [IsTys] at h
    have := IsTys.at h.2 m (by simpa using hm)
    rw [show k + 1 + m = k + (m + 1) by omega] at this
    exact this
/-- A type's five limbs. -/
theorem IsTy.limbs {W : World} {v : Value} {t : Sx.Ty} (h : IsTy W v t) : ∃ vn ve vp, v = .agg #[.int .i64 t.kind, .string ⟨t.name.toArray⟩, vn, ve, vp] ∧ StrRow W vn t.names ∧ BoolRow W ve t.embeds ∧ TyRow W vp t.parts := by
  cases t with
  | mk k nm ns es ps =>
    rw [IsTy] at h
    obtain ⟨vn, ve, A, c, hv, h1, h2, h4, h3⟩ := h
    exact ⟨vn, ve, _, hv, h1, h2, A, c, rfl, h4, h3⟩

end Go.Proofs.YtdncljdfmdgdaaaGreatDoor

namespace Go.Proofs.YtdncljdfmdgdaaaGreatDoor.Sx
open Go.Proofs.YtdncljdfmdgdaaaGreatDoor.Lx (Bytes)
theorem size_parts (t : Ty) : size t = 1 + t.name.length + t.names.length + t.embeds.length + (t.names.map List.length).sum + sizeL t.parts := by cases t; rw [size]; rfl
theorem size_pos (t : Ty) : 1 ≤ size t := by rw [size_parts]; omega
theorem size_mem : ∀ {l : List Ty} {t : Ty}, t ∈ l → size t ≤ sizeL l
  | u :: l, t, h => by
    rw [sizeL]
    rcases List.mem_cons.1 h with rfl | h
    · omega
    · have := size_mem h; omega
theorem parts_mem {l : List Ty} {t : Ty} (h : t ∈ l) : sizeL t.parts < sizeL l := by
  have h1 := size_mem h
  have h2 := size_parts t
  omega
theorem length_size : ∀ (l : List Ty), l.length ≤ sizeL l
  | [] => by simp [sizeL]
  | t :: l => by
    rw [sizeL, List.length_cons]
    have := length_size l
    have := size_pos t
    omega
mutual
theorem nodes_size : ∀ (t : Ty), nodes t ≤ size t
  | .mk k n ns es ps => by
    rw [nodes, size]
    have := nodesL_size ps
    split <;> omega
theorem nodesL_size : ∀ (l : List Ty), nodesL l ≤ sizeL l
  | [] => by simp [nodesL]
  | t :: l => by
    rw [nodesL, sizeL]
    have := nodes_size t
    have := nodesL_size l
    omega
end
mutual
theorem depth_size : ∀ (t : Ty), depth t ≤ size t
  | .mk k n ns es ps => by
    rw [depth, size]
    have := depthL_size ps
    omega
theorem depthL_size : ∀ (l : List Ty), depthL l ≤ sizeL l
  | [] => by simp [depthL]
  | t :: l => by
    rw [depthL, sizeL]
    have := depth_size t
    have := depthL_size l
    omega
end
theorem sizeL_append : ∀ (l m : List Ty), sizeL (l ++ m) = sizeL l + sizeL m
  | [], m => by simp [sizeL]
  | t :: l, m => by rw [List.cons_append, sizeL, sizeL, sizeL_append l m]; omega
theorem nodes_take {l : List Ty} {m : Nat} (h : m < l.length) : nodesL (l.take (m + 1)) = nodesL (l.take m) + nodes l[m] := by
  rw [List.take_succ_eq_append_getElem h, nodesL_append]
  simp [nodesL]
theorem depth_take {l : List Ty} {m : Nat} (h : m < l.length) : depthL (l.take (m + 1)) = max (depthL (l.take m)) (depth l[m]) := by
  rw [List.take_succ_eq_append_getElem h, depthL_append]
  simp [depthL]
theorem size_take {l : List Ty} {m : Nat} (h : m < l.length) : sizeL (l.take (m + 1)) = sizeL (l.take m) + size l[m] := by
  rw [List.take_succ_eq_append_getElem h, sizeL_append]
  simp [sizeL]
theorem nodesL_take_le (l : List Ty) (m : Nat) : nodesL (l.take m) ≤ nodesL l := by
  conv => rhs; rw [← List.take_append_drop m l, nodesL_append]
  omega
theorem depthL_take_le (l : List Ty) (m : Nat) : depthL (l.take m) ≤ depthL l := by
  conv => rhs; rw [← List.take_append_drop m l, depthL_append]
  omega
theorem sizeL_take_le (l : List Ty) (m : Nat) : sizeL (l.take m) ≤ sizeL l := by
  conv => rhs; rw [← List.take_append_drop m l, sizeL_append]
  omega
end Go.Proofs.YtdncljdfmdgdaaaGreatDoor.Sx
