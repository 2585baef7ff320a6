/-
  A book of token rows in memory: what coilbook's methods ask and leave.
  The walk of Book.Keep.
  Plain laws about a wrong place's reason.
  Plain laws for LexCuts: how a wrong place is bounded; a row fresh in the book.
-/
import Derived.Test.YtbhdkkkaeabkhaaGreatDoorM14
import Derived.Test.YtbhdkkkaeabkhaaGreatDoorM17
import Derived.Maps.AppendAt
import Derived.Deep.RegionLaw
namespace Go.Proofs.YtbhdkkkaeabkhaaGreatDoor
open Go.RowKit
set_option linter.unusedSimpArgs false
set_option linter.unusedVariables false

/-- A row of tokens with what lies behind it. -/
def RowX (w : World) (g : Nat) (us : List Lx.Tok) : Prop := ∃ tail : List Value, w.heap[g]? = some (.cells (us.flatMap cellsT ++ tail).toArray 26 (0, 0))
theorem RowX.lt {w : World} {g : Nat} {us : List Lx.Tok} (h : RowX w g us) : g < w.heap.size := by
  obtain ⟨tail, h⟩ := h
  exact lt_of_block h
theorem RowX.kept {w w' : World} {g : Nat} {us : List Lx.Tok} (h : RowX w g us) (e : w'.heap[g]? = w.heap[g]?) : RowX w' g us := by
  obtain ⟨tail, h⟩ := h
  exact ⟨tail, e.trans h⟩
theorem RowX.at {w : World} {g m : Nat} {us : List Lx.Tok} (h : RowX w g us) (hm : m < us.length) :
    w.cell? ⟨g, m * 4, none⟩ = some (.int .i64 (us[m]'hm).pos) ∧ w.cell? ⟨g, m * 4 + 1, none⟩ = some (.int .i64 (us[m]'hm).kind) ∧ w.cell? ⟨g, m * 4 + 2, none⟩ = some (.string ⟨(us[m]'hm).s.toArray⟩) ∧ w.cell? ⟨g, m * 4 + 3, none⟩ = some (.int .i64 (us[m]'hm).n) := by
  obtain ⟨tail, h⟩ := h
  exact toks_at h (by
    show (us.flatMap cellsT ++ tail).take (us.length * 4) = _
    rw [← flat_len us, List.take_left]) hm
theorem RowX.free {w : World} {g m : Nat} {us : List Lx.Tok} (h : RowX w g us) : w.frozen? ⟨g, m * 4, none⟩ = false ∧ w.frozen? ⟨g, m * 4 + 1, none⟩ = false ∧ w.frozen? ⟨g, m * 4 + 2, none⟩ = false ∧ w.frozen? ⟨g, m * 4 + 3, none⟩ = false := by
  obtain ⟨tail, h⟩ := h
  obtain ⟨cs, hcs⟩ : ∃ cs, (us.flatMap cellsT ++ tail).toArray = cs := ⟨_, rfl⟩
  rw [hcs] at h
  exact ⟨free_of h (m * 4), free_of h (m * 4 + 1), free_of h (m * 4 + 2), free_of h (m * 4 + 3)⟩
theorem RowX.set {w : World} {g m : Nat} {us : List Lx.Tok} (h : RowX w g us) (hm : m < us.length) (u : Lx.Tok) :
    RowX ((((w.setCell ⟨g, m * 4, none⟩ (.int .i64 u.pos)).setCell ⟨g, m * 4 + 1, none⟩ (.int .i64 u.kind)).setCell ⟨g, m * 4 + 2, none⟩ (.string ⟨u.s.toArray⟩)).setCell ⟨g, m * 4 + 3, none⟩ (.int .i64 u.n)) g (us.set m u) := by
  obtain ⟨tail, h⟩ := h
  have e : ∀ (X : List Value) (j : Nat) (v : Value), j < X.length → (X ++ tail).set j v = X.set j v ++ tail := fun X j v hj => List.set_append_left j v hj
  have hl : (us.flatMap cellsT).length = us.length * 4 := flat_len us
  have hs := flat_set us m hm u
  obtain ⟨L, hL⟩ : ∃ L, us.flatMap cellsT = L := ⟨_, rfl⟩
  obtain ⟨L', hL'⟩ : ∃ L', (us.set m u).flatMap cellsT = L' := ⟨_, rfl⟩
  rw [hL] at h hl hs
  rw [hL'] at hs
  obtain ⟨cs, hcs⟩ : ∃ cs, (L ++ tail).toArray = cs := ⟨_, rfl⟩
  rw [hcs] at h
  have h4 := heap_set (heap_set (heap_set (heap_set h (m * 4) (.int .i64 u.pos)) (m * 4 + 1) (.int .i64 u.kind)) (m * 4 + 2) (.string ⟨u.s.toArray⟩)) (m * 4 + 3) (.int .i64 u.n)
  have key : (((cs.setIfInBounds (m * 4) (.int .i64 u.pos)).setIfInBounds (m * 4 + 1) (.int .i64 u.kind)).setIfInBounds (m * 4 + 2) (.string ⟨u.s.toArray⟩)).setIfInBounds (m * 4 + 3) (.int .i64 u.n) = (L' ++ tail).toArray := by
    apply Array.toList_inj.1
    rw [← hcs, ← hs]
    simp only [Array.toList_setIfInBounds]
    rw [e _ _ _ (by omega), e _ _ _ (by simp only [List.length_set]; omega), e _ _ _ (by simp only [List.length_set]; omega), e _ _ _ (by simp only [List.length_set]; omega)]
  rw [key] at h4
  refine ⟨tail, ?_⟩
  rw [hL']
  exact h4
theorem RowX.toks {w : World} {g c : Nat} {us : List Lx.Tok} (h : RowX w g us) : ToksIn w (.slice (some ⟨g, 0, none⟩) us.length c) us := by
  obtain ⟨tail, h⟩ := h
  exact .inr ⟨g, c, _, _, rfl, h, by
    show (us.flatMap cellsT ++ tail).take (us.length * 4) = _
    rw [← flat_len us, List.take_left]⟩

/-- A kept row: its block, and what was in it. -/
abbrev Ent := Option Nat × List Lx.Tok
def evE (e : Ent) : Value := .slice (e.1.map fun g => ⟨g, 0, none⟩) e.2.length e.2.length
/-- What lies in its row now. -/
def EntIs (base : Nat) (W : World) (e : Ent) (us : List Lx.Tok) : Prop := us.length = e.2.length ∧ (us = [] ∨ ∃ g, e.1 = some g ∧ base ≤ g ∧ RowX W g us)
theorem EntIs.toks {base : Nat} {W : World} {e : Ent} {us : List Lx.Tok} (h : EntIs base W e us) : ToksIn W (evE e) us := by
  unfold evE
  rw [← h.1]
  rcases h.2 with rfl | ⟨g, hg, _, hr⟩
  · exact .inl ⟨rfl, _, _, rfl⟩
  · rw [hg]
    exact hr.toks
theorem EntIs.kept {base : Nat} {W W' : World} {e : Ent} {us : List Lx.Tok} (h : EntIs base W e us) (hk : ∀ g, e.1 = some g → RowX W g us → W'.heap[g]? = W.heap[g]?) : EntIs base W' e us := by
  refine ⟨h.1, ?_⟩
  rcases h.2 with h0 | ⟨g, hg, hb, hr⟩
  · exact .inl h0
  · exact .inr ⟨g, hg, hb, hr.kept (hk g hg hr)⟩
theorem EntIs.below {base : Nat} {W W' : World} {e : Ent} {us : List Lx.Tok} (h : EntIs base W e us) (hb : Below W.heap.size W W') : EntIs base W' e us :=
  h.kept fun g _ hr => hb.block g hr.lt
theorem RowT.ent {w : World} {base : Nat} {v : Value} {l : List Lx.Tok} (h : RowT w base v l) : ∃ a, v = evE (a, l) ∧ EntIs base w (a, l) l := by
  rcases h with ⟨rfl, rfl⟩ | ⟨g, cur, rfl, hb, hg, hs, ht⟩
  · exact ⟨none, rfl, rfl, .inl rfl⟩
  · refine ⟨some g, rfl, rfl, .inr ⟨g, rfl, hb, cur.toList.drop (l.length * 4), ?_⟩⟩
    rw [hg, ← ht, List.take_append_drop]

/-- No two of the rows share a place. -/
def Apart2 (E : List Ent) : Prop := ∀ (p q g : Nat) (e e' : Ent), p ≠ q → E[p]? = some e → E[q]? = some e' → e.2 ≠ [] → e'.2 ≠ [] → e.1 = some g → e'.1 ≠ some g
theorem infoSl : (Tryz.prog.info? 28).map (fun i => (i.zero, i.size, i.bytes)) = some (some (.slice none 0 0), 1, 24) := by kernel_rfl

/-- What the book itself writes: its own block, and rows of rows. -/
structure Fr28 (kb : Nat) (W W' : World) : Prop where
  os : W'.os = W.os
  tape : W'.tape = W.tape
  output : W'.output = W.output
  size : W.heap.size ≤ W'.heap.size
  block : ∀ k, k < W.heap.size → k ≠ kb → (∀ cs fr, W.heap[k]? ≠ some (.cells cs 28 fr)) → W'.heap[k]? = W.heap[k]?
theorem Fr28.refl (kb : Nat) (W : World) : Fr28 kb W W := ⟨rfl, rfl, rfl, Nat.le_refl _, fun _ _ _ _ => rfl⟩
theorem Fr28.trans {kb : Nat} {A B C : World} (h : Fr28 kb A B) (h' : Fr28 kb B C) : Fr28 kb A C :=
  ⟨h'.os.trans h.os, h'.tape.trans h.tape, h'.output.trans h.output, Nat.le_trans h.size h'.size, fun k hk hne ht => by
    have e := h.block k hk hne ht
    exact (h'.block k (Nat.lt_of_lt_of_le hk h.size) hne (by rw [e]; exact ht)).trans e⟩
theorem Fr28.grown {kb : Nat} {W W' : World} {row : Option Nat} (h : W.grownBy W' row) (hr : ∀ r, row = some r → r = kb ∨ ∃ cs fr, W.heap[r]? = some (.cells cs 28 fr)) : Fr28 kb W W' :=
  ⟨h.os, h.tape, h.output, h.size, fun k hk hne ht => h.block k hk (fun e => by
    rcases hr k e.symm with h1 | ⟨cs, fr, h1⟩
    · exact hne h1
    · exact ht cs fr h1)⟩
theorem Fr28.below {kb : Nat} {W W' : World} (h : Below W.heap.size W W') : Fr28 kb W W' := Fr28.grown (below_grown h) (fun r e => nomatch e)
theorem below_grownB {B : Nat} {W W' : World} {row : Option Nat} (h : W.grownBy W' row) (hB : B ≤ W.heap.size) (hr : ∀ r, row = some r → B ≤ r) : Below B W W' :=
  ⟨h.os, h.tape, h.output, h.size, fun k hk => h.block k (by omega) (fun e => by have := hr k e.symm; omega)⟩
/-- A row of tokens stays. -/
theorem Fr28.rowX {kb g : Nat} {W W' : World} {us : List Lx.Tok} (h : Fr28 kb W W') (hne : g ≠ kb) (hr : RowX W g us) : W'.heap[g]? = W.heap[g]? := by
  refine h.block g hr.lt hne fun cs fr he => ?_
  obtain ⟨tail, hr⟩ := hr
  rw [hr] at he
  injection he with he
  injection he with h1 h2 h3
  exact absurd h2 (by decide)
theorem Fr28.toks {kb : Nat} {W W' : World} {ts : List Lx.Tok} {v : Value} (h : Fr28 kb W W') (hkb : ∀ cs fr, W.heap[kb]? ≠ some (.cells cs 26 fr)) (hv : ToksIn W v ts) : ToksIn W' v ts := by
  rcases hv with h0 | ⟨g, c, cur, fr, rfl, hg, hc⟩
  · exact .inl h0
  · refine .inr ⟨g, c, cur, fr, rfl, (h.block g (lt_of_block hg) (fun e => hkb _ _ (by rw [← e]; exact hg)) (fun cs fr he => ?_)).trans hg, hc⟩
    rw [hg] at he
    injection he with he
    injection he with h1 h2 h3
    exact absurd h2 (by decide)

/-- The book: the rows that it keeps, and a copy of each. -/
def BookW (base : Nat) (W : World) (kb : Nat) (E : List Ent) : Prop :=
  base ≤ kb ∧ Apart2 E ∧ ∃ (vl vw : Value) (held : Int) (C : List Value),
    W.heap[kb]? = some (.cells #[vl, vw, .int .i64 held, .bool false] 46 (0, 0)) ∧
    W.ownsRow base 28 1 vl E.length (E.map evE) ∧ W.ownsRow base 28 1 vw E.length C ∧
    (vl.ownBlock = none ∨ vl.ownBlock ≠ vw.ownBlock) ∧ 0 ≤ held ∧ held ≤ E.length * 70000 ∧
    (∀ (p : Nat) (e : Ent), E[p]? = some e → EntIs base W e e.2) ∧ (∀ (p : Nat) (e : Ent) (c : Value), E[p]? = some e → C[p]? = some c → ToksIn W c e.2)
theorem BookW.below {base kb : Nat} {W W' : World} {E : List Ent} (h : BookW base W kb E) (hb : Below W.heap.size W W') : BookW base W' kb E := by
  obtain ⟨h1, h2, vl, vw, held, C, hk, hl, hw, hd, h0, h3, he, hc⟩ := h
  exact ⟨h1, h2, vl, vw, held, C, (hb.block kb (lt_of_block hk)).trans hk, hl.kept (below_grown hb) (by cases vl.ownBlock <;> simp), hw.kept (below_grown hb) (by cases vw.ownBlock <;> simp), hd, h0, h3,
    fun p e hp => (he p e hp).below hb, fun p e c hp hq => (hc p e c hp hq).below hb⟩
theorem BookW.lt {base kb : Nat} {W : World} {E : List Ent} (h : BookW base W kb E) : kb < W.heap.size := by
  obtain ⟨_, _, vl, vw, held, C, hk, _⟩ := h
  exact lt_of_block hk

end Go.Proofs.YtbhdkkkaeabkhaaGreatDoor

namespace Go.Proofs.YtbhdkkkaeabkhaaGreatDoor
open Go.RowKit
set_option linter.unusedSimpArgs false
set_option linter.unusedVariables false

theorem wp_append_own_at {P : Program} {w : World} {o : Oper} {a : Act} {K : Act → World → Prop} {Q : Exit → Act → World → Prop} (s x : Operand) (t : TypeId)
    (ho : o.op = .call { callee := .builtin .append, args := #[s, x], argTypes := #[t, t] })
    (base : Nat) (e : TypeId) (i : TypeInfo) (z : Value) (size bytes : Nat) (ht : P.underlying t = some (.slice e)) (hi : P.info? e = some i) (hz : i.zero = some z)
    (hsize : i.size = size) (hby : i.bytes = bytes) (hzs : z.cells.size = size) (hsz : 0 < size)
    (v : Value) (n : Nat) (xs : List Value) (hs : a.eval s = v) (hown : w.ownsRow base e size v n xs)
    (ad : Addr) (m c : Nat) (news : List Value) (hx : a.eval x = .slice (some ad) m c) (hl : news.length = m * size) (hnews : ∀ j u, news[j]? = some u → w.cell? (ad.add j) = some u) (h1 : ∀ u ∈ news, u.oneCell' = true)
    (h63 : n + m ≤ maxLen) (hbytes : (n + m) * bytes ≤ 140737488355328) (hbase : base ≤ w.heap.size)
    (h : ∀ v' w', w'.ownsRow base e size v' (n + m) (xs ++ news) → w.grownBy w' v.ownBlock → (v'.ownBlock = v.ownBlock ∨ v'.ownBlock = some w.heap.size) → K (a.put o.dst v') w') : o.wp P a w K Q := by
  obtain ⟨v', w', hr, h2, h3, h4, h5⟩ := run_append_own_at (P := P) w base t o.type e i z size bytes ht hi hz hsize hby hzs hsz v n xs hown ad m c news hl hnews h1 h63 hbytes hbase
  unfold Oper.wp execOp
  simp only [ho, resolve, invoke, builtin, Sem.run_bind, Sem.run_pure, Result.andThen_ok, List.map_toArray, List.map_cons, List.map_nil, hs, hx, hr]
  exact h v' w' h2 h3 h5

/-- append(nil, l...) in a region that draws its order. -/
theorem stepCopy {ops : Array Oper} {o : Oper} {a : Act} {K : Act → World → Prop} {Q : Exit → Act → World → Prop} {X : Prop} {W : World} (hgd : o.guard = none) (s x : Operand)
    (ho : o.op = .call { callee := .builtin .append, args := #[s, x], argTypes := #[28, 28] }) (l : List Lx.Tok) (ga n c base : Nat)
    (hs : a.eval s = .slice none 0 0) (hx : a.eval x = .slice (some ⟨ga, 0, none⟩) n c) (hn : l.length = n) (hr : RowX W ga l) (hbase : base ≤ W.heap.size) (hl : l.length ≤ 65537)
    (h : ∀ v' w', OwnT w' base v' l → W.grownBy w' none → K (a.put o.dst v') w') : if Region.wanted o (yielded ops a.tmps) = true then Oper.wp Tryz.prog o a W K Q else X := by
  obtain ⟨i0, hi, hz0, hz1, hz2⟩ := info_parts infoTok
  rw [if_pos (by simp [Region.wanted, hgd])]
  refine wp_append_own W s x 28 ho base 26 i0 _ 4 40 Tryz.underlying28 hi hz0 hz1 hz2 rfl (by decide) (.slice none 0 0) 0 [] hs (World.ownsRow_nil _ _ _ _) ⟨ga, 0, none⟩ n c (l.flatMap cellsT) hx (by rw [flat_len, hn]) ?_ (flat_one l) (by unfold maxLen; omega) (by omega) hbase ?_
  · intro j u hj
    obtain ⟨tail, hr⟩ := hr
    have e : (⟨ga, 0, none⟩ : Addr).add j = ⟨ga, j, none⟩ := by
      by_cases h0 : j = 0
      · subst h0; simp [Addr.add]
      · simp [Addr.add, h0]
    rw [e, cell_of hr, ← hj, List.getElem?_toArray, List.getElem?_append_left (List.getElem?_eq_some_iff.1 hj).1]
  · intro v' w' hown hg _
    refine h v' w' ?_ hg
    unfold OwnT
    rw [hn]
    simpa using hown
theorem stepCopyNil {ops : Array Oper} {o : Oper} {a : Act} {K : Act → World → Prop} {Q : Exit → Act → World → Prop} {X : Prop} {W : World} (hgd : o.guard = none) (s x : Operand)
    (ho : o.op = .call { callee := .builtin .append, args := #[s, x], argTypes := #[28, 28] }) (A : Option Addr) (c : Nat)
    (hs : a.eval s = .slice none 0 0) (hx : a.eval x = .slice A 0 c)
    (h : K (a.put o.dst (.slice none 0 0)) W) : if Region.wanted o (yielded ops a.tmps) = true then Oper.wp Tryz.prog o a W K Q else X := by
  rw [if_pos (by simp [Region.wanted, hgd])]
  have hr : (Builtin.append_ #[28, 28] o.type #[.slice none 0 0, .slice A 0 c]).run Tryz.prog W = .ok (.slice none 0 0) W := by
    obtain ⟨i0, hi, hz0, hz1, hz2⟩ := info_parts infoTok
    cases A <;> simp [Builtin.append_, run_underlying Tryz.underlying28, sizeOf, typeInfo, hi, Builtin.lenOf, Builtin.firstCells, loadCells, loadCellsFrom]
  unfold Oper.wp execOp
  simp only [ho, resolve, invoke, builtin, Sem.run_bind, Sem.run_pure, Result.andThen_ok, List.map_toArray, List.map_cons, List.map_nil, hs, hx, hr]
  exact h
/-- append(v, c), a row of rows. -/
theorem stepRow {ops : Array Oper} {o : Oper} {a : Act} {K : Act → World → Prop} {Q : Exit → Act → World → Prop} {X : Prop} {W : World} (base : Nat) (hgd : o.guard = none) (s x : Operand)
    (ho : o.op = .call { callee := .builtin .append, args := #[s, x], argTypes := #[44, 44] })
    (v u : Value) (k N : Nat) (C : List Value) (hs : a.eval s = v) (hx : a.eval x = .slice (some ⟨N, 0, none⟩) 1 1) (hN : W.heap[N]? = some (.cells #[u] 28 (0, 0))) (hu : u.oneCell' = true)
    (HO : W.ownsRow base 28 1 v k C) (hbase : base ≤ W.heap.size) (hk : k ≤ 10)
    (h : ∀ g1 c1 w1, w1.ownsRow base 28 1 (.slice (some ⟨g1, 0, none⟩) (k + 1) c1) (k + 1) (C ++ [u]) → W.grownBy w1 v.ownBlock → (some g1 = v.ownBlock ∨ g1 = W.heap.size) → K (a.put o.dst (.slice (some ⟨g1, 0, none⟩) (k + 1) c1)) w1) :
    if Region.wanted o (yielded ops a.tmps) = true then Oper.wp Tryz.prog o a W K Q else X := by
  obtain ⟨i0, hi, hz0, hz1, hz2⟩ := info_parts infoSl
  rw [if_pos (by simp [Region.wanted, hgd])]
  refine wp_append_own_at s x 44 ho base 28 i0 _ 1 24 Tryz.underlying44 hi hz0 hz1 hz2 rfl (by decide) v k C hs HO ⟨N, 0, none⟩ 1 1 [u] hx rfl ?_ (by simpa using hu) (by unfold maxLen; omega) (by omega) hbase ?_
  · intro j u' hj
    match j, hj with
    | 0, hj =>
      simp at hj
      subst hj
      show W.cell? ⟨N, 0, none⟩ = _
      rw [cell_of hN]
      rfl
  · intro v1 w1 hown hg hat
    obtain ⟨g1, c1, hv1⟩ := ownsRow_succ hown
    subst hv1
    exact h g1 c1 w1 hown hg (hat.imp id (fun h => by injection h))

theorem Apart2.snoc {E : List Ent} {a : Option Nat} {l : List Lx.Tok} (h : Apart2 E) (hf : ∀ (p g : Nat) (e : Ent), E[p]? = some e → e.2 ≠ [] → l ≠ [] → a = some g → e.1 ≠ some g) : Apart2 (E ++ [(a, l)]) := by
  have key : ∀ (p : Nat) (e : Ent), (E ++ [(a, l)])[p]? = some e → (p < E.length ∧ E[p]? = some e) ∨ (p = E.length ∧ e = (a, l)) := by
    intro p e hp
    rcases Nat.lt_or_ge p E.length with h | h
    · rw [List.getElem?_append_left h] at hp; exact .inl ⟨h, hp⟩
    · rw [List.getElem?_append_right h] at hp
      have hp2 := (List.getElem?_eq_some_iff.1 hp).1
      simp only [List.length_cons, List.length_nil] at hp2
      have : p = E.length := by omega
      subst this
      simp at hp
      exact .inr ⟨rfl, hp.symm⟩
  intro p q g e e' hpq hp hq hne hne' hg
  rcases key p e hp with ⟨h1, h2⟩ | ⟨h1, h2⟩ <;> rcases key q e' hq with ⟨h3, h4⟩ | ⟨h3, h4⟩
  · exact h p q g e e' hpq h2 h4 hne hne' hg
  · subst h4
    intro hg'
    exact hf p g e h2 hne hne' hg' hg
  · subst h2
    exact hf q g e' h4 hne' hne hg
  · omega
theorem rowX_ne {W : World} {g kb : Nat} {us : List Lx.Tok} {cs : Array Value} (hk : W.heap[kb]? = some (.cells cs 46 (0, 0))) (hr : RowX W g us) : g ≠ kb := by
  rintro rfl
  obtain ⟨tail, hr⟩ := hr
  rw [hk] at hr
  injection hr with hr
  injection hr with h1 h2 h3
  exact absurd h2 (by decide)
theorem EntIs.fr {base kb : Nat} {W W' : World} {e : Ent} {us : List Lx.Tok} {cs : Array Value} (h : EntIs base W e us) (hf : Fr28 kb W W') (hk : W.heap[kb]? = some (.cells cs 46 (0, 0))) : EntIs base W' e us :=
  h.kept fun g _ hr => hf.rowX (rowX_ne hk hr) hr
theorem toks_fr {kb : Nat} {W W' : World} {ts : List Lx.Tok} {v : Value} {cs : Array Value} (h : ToksIn W v ts) (hf : Fr28 kb W W') (hk : W.heap[kb]? = some (.cells cs 46 (0, 0))) : ToksIn W' v ts :=
  hf.toks (fun cs' fr he => by
    rw [hk] at he
    injection he with he
    injection he with h1 h2 h3
    exact absurd h2 (by decide)) h

/-- Behind the second append and its store. -/
theorem keep_after {base kb g1 c1 m k g2 c2 : Nat} {W2 X w3 : World} {L C : List Value} {u vw h2 h3 : Value} (hbk : base ≤ kb)
    (HK2 : W2.heap[kb]? = some (.cells #[.slice (some ⟨g1, 0, none⟩) m c1, vw, h2, h3] 46 (0, 0)))
    (HL2 : W2.ownsRow base 28 1 (.slice (some ⟨g1, 0, none⟩) m c1) m L) (HW2 : W2.ownsRow base 28 1 vw k C)
    (HNW : ∀ r, vw.ownBlock = some r → r ≠ kb) (HD2 : ∀ r, vw.ownBlock = some r → r ≠ g1) (hg1 : g1 ≠ kb) (hX : Below W2.heap.size W2 X)
    (hown : w3.ownsRow base 28 1 (.slice (some ⟨g2, 0, none⟩) (k + 1) c2) (k + 1) (C ++ [u])) (hgr : X.grownBy w3 vw.ownBlock) (hat : some g2 = vw.ownBlock ∨ g2 = X.heap.size) :
    (w3.setCell ⟨kb, 1, none⟩ (.slice (some ⟨g2, 0, none⟩) (k + 1) c2)).heap[kb]? = some (.cells #[.slice (some ⟨g1, 0, none⟩) m c1, .slice (some ⟨g2, 0, none⟩) (k + 1) c2, h2, h3] 46 (0, 0)) ∧
    (w3.setCell ⟨kb, 1, none⟩ (.slice (some ⟨g2, 0, none⟩) (k + 1) c2)).ownsRow base 28 1 (.slice (some ⟨g1, 0, none⟩) m c1) m L ∧
    (w3.setCell ⟨kb, 1, none⟩ (.slice (some ⟨g2, 0, none⟩) (k + 1) c2)).ownsRow base 28 1 (.slice (some ⟨g2, 0, none⟩) (k + 1) c2) (k + 1) (C ++ [u]) ∧
    g2 ≠ g1 ∧ g2 ≠ kb ∧ Fr28 kb X (w3.setCell ⟨kb, 1, none⟩ (.slice (some ⟨g2, 0, none⟩) (k + 1) c2)) ∧ Below base X (w3.setCell ⟨kb, 1, none⟩ (.slice (some ⟨g2, 0, none⟩) (k + 1) c2)) := by
  have hk2 := lt_of_block HK2
  have hl2 := (World.ownsRow.lt HL2 g1 rfl).2
  have hXs := hX.size
  have hkX := (hX.block kb hk2).trans HK2
  have hk3 := (hgr.block kb (by omega) (fun e => HNW kb e.symm rfl)).trans hkX
  have hg2 : g2 ≠ g1 ∧ g2 ≠ kb := by
    rcases hat with h | h
    · exact ⟨HD2 g2 h.symm, HNW g2 h.symm⟩
    · omega
  have hlX := HL2.kept (below_grown hX) (.inr (by simp [Value.ownBlock]))
  have hl3 := hlX.kept hgr (.inr (fun e => HD2 g1 e.symm rfl))
  have hwX := HW2.kept (below_grown hX) (by cases vw.ownBlock <;> simp)
  refine ⟨heap_set hk3 1 _, hl3.kept (grown_set _ _ _ _) (.inr (fun e => ?_)), hown.kept (grown_set _ _ _ _) (.inr (fun e => ?_)), hg2.1, hg2.2, ?_, ?_⟩
  · simp only [Value.ownBlock] at e
    injection e with e
    exact hg1 e
  · simp only [Value.ownBlock] at e
    injection e with e
    exact hg2.2 e
  · refine (Fr28.grown hgr (fun r hr => .inr ?_)).trans (Fr28.grown (grown_set _ _ _ _) (fun r e => .inl (by injection e with e; exact e.symm)))
    obtain ⟨_, c, hc⟩ := row_kind hwX r hr
    exact ⟨c, _, hc⟩
  · refine (below_grownB hgr (by omega) (fun r hr => (World.ownsRow.lt HW2 r hr).1)).trans (below_grownB (grown_set _ _ _ _) (by have := hgr.size; omega) (fun r e => by injection e with e; omega))

/-- The book with one row more. -/
theorem keep_end {base kb g1 c1 g2 c2 k n : Nat} {W W3 : World} {E : List Ent} {a : Option Nat} {l : List Lx.Tok} {C : List Value} {c : Value} {held : Int} {cs : Array Value} (hbk : base ≤ kb)
    (hk0 : W.heap[kb]? = some (.cells cs 46 (0, 0))) (hkE : E.length = k) (hn : l.length = n) (hl : n ≤ 65537) (h0 : 0 ≤ held) (h3 : held ≤ (k : Int) * 70000)
    (hap : Apart2 E) (hfresh : ∀ (p g : Nat) (e : Ent), E[p]? = some e → e.2 ≠ [] → l ≠ [] → a = some g → e.1 ≠ some g)
    (hes : ∀ (p : Nat) (e : Ent), E[p]? = some e → EntIs base W e e.2) (hcs : ∀ (p : Nat) (e : Ent) (c : Value), E[p]? = some e → C[p]? = some c → ToksIn W c e.2) (he : EntIs base W (a, l) l)
    (hk : W3.heap[kb]? = some (.cells #[.slice (some ⟨g1, 0, none⟩) (k + 1) c1, .slice (some ⟨g2, 0, none⟩) (k + 1) c2, .int .i64 held, .bool false] 46 (0, 0)))
    (hl3 : W3.ownsRow base 28 1 (.slice (some ⟨g1, 0, none⟩) (k + 1) c1) (k + 1) (E.map evE ++ [evE (a, l)]))
    (hw3 : W3.ownsRow base 28 1 (.slice (some ⟨g2, 0, none⟩) (k + 1) c2) (k + 1) (C ++ [c]))
    (hg : g2 ≠ g1) (hg1 : g1 ≠ kb) (hg2 : g2 ≠ kb) (hf : Fr28 kb W W3) (hb : Below base W W3) (hc : ToksIn W3 c l) :
    BookW base (W3.setCell ⟨kb, 2, none⟩ (.int .i64 (held + (n : Int) + 1))) kb (E ++ [(a, l)]) ∧ Below base W (W3.setCell ⟨kb, 2, none⟩ (.int .i64 (held + (n : Int) + 1))) ∧ Fr28 kb W (W3.setCell ⟨kb, 2, none⟩ (.int .i64 (held + (n : Int) + 1))) := by
  have hs := grown_set W3 kb 2 (.int .i64 (held + (n : Int) + 1))
  have hfs : Fr28 kb W3 (W3.setCell ⟨kb, 2, none⟩ (.int .i64 (held + (n : Int) + 1))) := Fr28.grown hs (fun r e => .inl (by injection e with e; exact e.symm))
  have hf4 := hf.trans hfs
  have hlt := lt_of_block hk
  have hb4 := hb.trans (below_grownB (B := base) hs (by omega) (fun r e => by injection e with e; omega))
  have hel : (E ++ [(a, l)]).length = k + 1 := by rw [List.length_append, hkE]; rfl
  have hCl : C.length = k := by
    have := hw3.1
    rw [List.length_append, List.length_cons, List.length_nil] at this
    omega
  have key : ∀ (p : Nat) (e : Ent), (E ++ [(a, l)])[p]? = some e → (p < k ∧ E[p]? = some e) ∨ (p = k ∧ e = (a, l)) := by
    intro p e hp
    rcases Nat.lt_or_ge p E.length with h | h
    · rw [List.getElem?_append_left h] at hp; exact .inl ⟨by omega, hp⟩
    · rw [List.getElem?_append_right h] at hp
      have hp2 := (List.getElem?_eq_some_iff.1 hp).1
      simp only [List.length_cons, List.length_nil] at hp2
      have : p = E.length := by omega
      subst this
      simp at hp
      exact .inr ⟨hkE, hp.symm⟩
  refine ⟨⟨hbk, hap.snoc hfresh, _, _, _, C ++ [c], heap_set hk 2 _, ?_, ?_, .inr ?_, by omega, by rw [hel]; omega, ?_, ?_⟩, hb4, hf4⟩
  · rw [hel, List.map_append]
    exact hl3.kept hs (.inr (fun e => by simp only [Value.ownBlock] at e; injection e with e; exact hg1 e))
  · rw [hel]
    exact hw3.kept hs (.inr (fun e => by simp only [Value.ownBlock] at e; injection e with e; exact hg2 e))
  · simp only [Value.ownBlock]
    intro e
    injection e with e
    exact hg e.symm
  · intro p e hp
    rcases key p e hp with ⟨_, h⟩ | ⟨_, h⟩
    · exact (hes p e h).fr hf4 hk0
    · subst h
      exact he.fr hf4 hk0
  · intro p e d hp hd
    rcases key p e hp with ⟨h1, h⟩ | ⟨h1, h⟩
    · rw [List.getElem?_append_left (by omega)] at hd
      exact toks_fr (hcs p e d h hd) hf4 hk0
    · subst h
      rw [List.getElem?_append_right (by omega), hCl, h1, Nat.sub_self] at hd
      simp at hd
      subst hd
      exact toks_fr hc hfs hk

set_option maxRecDepth 100000 in
set_option maxHeartbeats 4000000 in
theorem bookKeep (base kb : Nat) (W : World) (E : List Ent) (a : Option Nat) (l : List Lx.Tok) (h : BookW base W kb E) (he : EntIs base W (a, l) l)
    (hfresh : ∀ (p g : Nat) (e : Ent), E[p]? = some e → e.2 ≠ [] → l ≠ [] → a = some g → e.1 ≠ some g) (hl : l.length ≤ 65537) (hE : E.length ≤ 10) :
    Calls Tryz.prog 26 #[.pointer (some ⟨kb, 0, none⟩), evE (a, l)] W fun e W' => (∃ u, e = .returned u) ∧ BookW base W' kb (E ++ [(a, l)]) ∧ Below base W W' ∧ Fr28 kb W W' := by
  obtain ⟨hbk, hap, vl, vw, held, C, hk, hlr, hwr, hd, h0, h3, hes, hcs⟩ := h
  have hlt := lt_of_block hk
  obtain ⟨p0, p1, p2, p3⟩ := four_cells hk
  obtain ⟨f0, f1, f2, f3⟩ := four_free hk
  have hbW : base ≤ W.heap.size := by omega
  obtain ⟨k, hkE⟩ : ∃ k, E.length = k := ⟨_, rfl⟩
  have hk10 : k ≤ 10 := by omega
  have h3' : held ≤ (k : Int) * 70000 := by rw [← hkE]; exact h3
  rw [hkE] at hlr hwr
  obtain ⟨A, hA⟩ : ∃ A, (a.map fun g => (⟨g, 0, none⟩ : Addr)) = A := ⟨_, rfl⟩
  obtain ⟨n, hn⟩ : ∃ n, l.length = n := ⟨_, rfl⟩
  have hev : evE (a, l) = .slice A n n := by unfold evE; rw [← hA, ← hn]
  have hn1 : (n : Int) ≤ 65537 := by omega
  rw [hev]
  obtain ⟨i0, hi', hz0, hz1, hz2⟩ := info_parts infoSl
  have hne : ∀ {v : Value} {m : Nat} {xs : List Value}, W.ownsRow base 28 1 v m xs → ∀ r, v.ownBlock = some r → r ≠ kb := fun hr r e he => by
    obtain ⟨_, c, hc⟩ := row_kind hr r e
    rw [he, hk] at hc
    injection hc with hc
    injection hc with h1 h2 h3
    exact absurd h2 (by decide)
  have HNL := Lib.hid (hne hlr)
  have HNW := Lib.hid (hne hwr)
  have HFR := Lib.hid hfresh
  have HK := Lib.hid hk
  have HL := Lib.hid hlr
  have HWR := Lib.hid hwr
  have HAP := Lib.hid hap
  have HD := Lib.hid hd
  have HES := Lib.hid hes
  have HCS := Lib.hid hcs
  have HE := Lib.hid he
  have HEV := Lib.hid hev
  have HA := Lib.hid hA
  have HN := Lib.hid hn
  have HKE := Lib.hid hkE
  have hlr' : (W.alloc (.cells #[.slice A n n] 28)).ownsRow base 28 1 vl k (E.map evE) := World.ownsRow.alloc hlr _
  clear hne hk hlr hwr hap hd hes hcs he hev hA hn hfresh h3 hkE
  go_enter Tryz.func26, Tryz.ntmps26
  go_upto_region 1 with (at_builtin; refine wpList_append_own_at _ rfl (.tmp 8) (.tmp 10) 44 rfl base 28 i0 _ 1 24 Tryz.underlying44 hi' hz0 hz1 hz2 rfl (by decide) vl k (E.map evE) rfl hlr' ⟨W.heap.size, 0, none⟩ 1 1 [.slice A n n] rfl rfl (cell_one_new _ _ _) (by simp [Value.oneCell']) (by unfold maxLen; omega) (by omega) (by simp; omega) ?_; intro v1 w1 hown hgr _ hat; obtain ⟨g1, c1, hv1⟩ := ownsRow_succ hown; subst hv1; have hk1 := (hgr.block kb (by simp; omega) (fun e => HNL.out kb e.symm rfl)).trans (heap_alloc HK.out _); obtain ⟨q0, q1, q2, q3⟩ := four_cells hk1; obtain ⟨e0, e1, e2, e3⟩ := four_free hk1; have hlk1 := lt_of_block hk1)
  have hg1 : g1 ≠ kb := by
    rcases hat with h | h
    · exact HNL.out g1 h.symm
    · simp only [Value.ownBlock, World.size_alloc] at h
      injection h with h
      omega
  have hd2 : ∀ r, vw.ownBlock = some r → r ≠ g1 := by
    intro r hr e
    have hrl := (World.ownsRow.lt HWR.out r hr).2
    rcases hat with h | h
    · rcases HD.out with h0 | h0
      · rw [h0] at h; cases h
      · exact h0 (h.symm.trans (by rw [hr, e]; rfl))
    · simp only [Value.ownBlock, World.size_alloc] at h
      injection h with h
      omega
  have hvw : vw.ownBlock = none ∨ vw.ownBlock ≠ vl.ownBlock := by
    rcases HD.out with h | h
    · cases hw : vw.ownBlock with
      | none => exact .inl rfl
      | some r => exact .inr (by rw [h]; simp)
    · exact .inr (fun e => h e.symm)
  have hw2 := ((HWR.out.alloc (.cells #[.slice A n n] 28)).kept hgr hvw).kept (grown_set w1 kb 0 (.slice (some ⟨g1, 0, none⟩) (k + 1) c1)) (by
    cases hw : vw.ownBlock with
    | none => exact .inl rfl
    | some r => exact .inr (fun e => by injection e with e; exact HNW.out r hw e))
  have hl2 := hown.kept (grown_set w1 kb 0 (.slice (some ⟨g1, 0, none⟩) (k + 1) c1)) (.inr (fun e => by simp only [Value.ownBlock] at e; injection e with e; exact hg1 e))
  have hk2 : (w1.setCell ⟨kb, 0, none⟩ (.slice (some ⟨g1, 0, none⟩) (k + 1) c1)).heap[kb]? = some (.cells #[.slice (some ⟨g1, 0, none⟩) (k + 1) c1, vw, .int .i64 held, .bool false] 46 (0, 0)) := heap_set hk1 0 _
  have hrow28 : ∀ r, vl.ownBlock = some r → r = kb ∨ ∃ cs fr, (W.alloc (.cells #[.slice A n n] 28)).heap[r]? = some (.cells cs 28 fr) := fun r hr => .inr (by
    obtain ⟨_, c, hc⟩ := row_kind hlr' r hr
    exact ⟨c, _, hc⟩)
  have hf2 := ((Fr28.below (kb := kb) (grown_below (World.grownBy_alloc W (.cells #[.slice A n n] 28) none))).trans (Fr28.grown hgr hrow28)).trans (Fr28.grown (grown_set w1 kb 0 (.slice (some ⟨g1, 0, none⟩) (k + 1) c1)) (fun r e => .inl (by injection e with e; exact e.symm)))
  have hb2 := ((below_grownB (B := base) (World.grownBy_alloc W (.cells #[.slice A n n] 28) none) hbW (fun r e => nomatch e)).trans (below_grownB hgr (by simp; omega) (fun r hr => (World.ownsRow.lt HL.out r hr).1))).trans (below_grownB (B := base) (grown_set w1 kb 0 (.slice (some ⟨g1, 0, none⟩) (k + 1) c1)) (by omega) (fun r e => by injection e with e; omega))
  obtain ⟨W2, hW2⟩ : ∃ W2, w1.setCell ⟨kb, 0, none⟩ (.slice (some ⟨g1, 0, none⟩) (k + 1) c1) = W2 := ⟨_, rfl⟩
  rw [hW2] at hw2 hl2 hk2 hf2 hb2 ⊢
  have HL2 := Lib.hid hl2
  have HW2 := Lib.hid hw2
  have HK2 := Lib.hid hk2
  have HF2 := Lib.hid hf2
  have HB2 := Lib.hid hb2
  have HD2 := Lib.hid hd2
  have hlt2 := lt_of_block hk2
  clear hW2 hw2 hl2 hk2 hf2 hb2 hd2 hvw hrow28 q0 q1 q2 q3 e0 e1 e2 e3 hlk1 hk1 hown hgr hat p0 p1 p2 p3 f0 f1 f2 f3 hlr' hi' hz0 hz1 hz2
  obtain ⟨p0, p1, p2, p3⟩ := four_cells HK2.out
  obtain ⟨f0, f1, f2, f3⟩ := four_free HK2.out
  have hnw2 : ∀ r, vw.ownBlock = some r → r ≠ kb := HNW.out
  by_cases h0l : l = []
  · have hn0 : n = 0 := by rw [← HN.out, h0l]; rfl
    subst hn0
    have HL0 := Lib.hid h0l
    clear h0l
    go_region_law (first
      | (refine stepCopyNil rfl (.const (.slice none 0 0)) (.tmp 19) rfl A 0 rfl rfl ?_)
      | (refine stepRow (W := (W2.alloc (.cells #[.slice none 0 0] 28)).drew) base rfl (.tmp 18) (.tmp 21) rfl vw (.slice none 0 0) k W2.heap.size C rfl rfl (by exact heap_alloc_new W2 _) rfl (by exact World.ownsRow.alloc HW2.out _) (by show base ≤ (W2.alloc _).heap.size; simp; omega) hk10 ?_; intro g2 c2 w3 hown hgr hat; have hk3 := (hgr.block kb (by show kb < (W2.alloc _).heap.size; simp; omega) (fun e => HNW.out kb e.symm rfl)).trans (heap_alloc HK2.out _); obtain ⟨q0, q1, q2, q3⟩ := four_cells hk3; obtain ⟨e0, e1, e2, e3⟩ := four_free hk3; have hlk3 := lt_of_block hk3))
    all_goals
      obtain ⟨hk5, hl5, hw5, hg5, hg6, hf5, hb5⟩ := keep_after (X := (W2.alloc (.cells #[.slice none 0 0] 28)).drew) hbk HK2.out HL2.out HW2.out HNW.out HD2.out hg1 (Below.drewN (grown_below (World.grownBy_alloc W2 _ none)) 1) hown hgr hat
      obtain ⟨W5, hW5⟩ : ∃ W5, w3.setCell ⟨kb, 1, none⟩ (.slice (some ⟨g2, 0, none⟩) (k + 1) c2) = W5 := ⟨_, rfl⟩
      rw [hW5] at hk5 hl5 hw5 hf5 hb5 ⊢
      have hfX := (HF2.out.trans (Fr28.below (kb := kb) (Below.drewN (grown_below (World.grownBy_alloc W2 (.cells #[.slice none 0 0] 28) none)) 1))).trans hf5
      have hbX := (HB2.out.trans (Below.mono (Below.drewN (grown_below (World.grownBy_alloc W2 (.cells #[.slice none 0 0] 28) none)) 1) (by omega))).trans hb5
      have hfin := keep_end hbk HK.out HKE.out HN.out (by omega) h0 h3' HAP.out HFR.out HES.out HCS.out HE.out hk5 (by rw [HEV.out]; exact hl5) hw5 hg5 hg1 hg6 hfX hbX (by rw [HL0.out]; exact .inl ⟨rfl, none, 0, rfl⟩)
      have HFIN := Lib.hid hfin
      clear q0 q1 q2 q3 e0 e1 e2 e3 hlk3 hk3 hown hgr hat hW5 hl5 hw5 hf5 hb5 hfX hbX hfin p0 p1 p2 p3 f0 f1 f2 f3
      obtain ⟨p0, p1, p2, p3⟩ := four_cells hk5
      obtain ⟨f0, f1, f2, f3⟩ := four_free hk5
      have hlk5 := lt_of_block hk5
      have HK5 := Lib.hid hk5
      clear hk5
    all_goals
      go_upto_region 3 with fail
      obtain ⟨W6, hW6⟩ : ∃ W6, W5.setCell ⟨kb, 2, none⟩ (.int .i64 (held + 1)) = W6 := ⟨_, rfl⟩
      have hk6 := heap_set HK5.out 2 (.int .i64 (held + 1))
      have hfin := HFIN.out
      rw [show held + ((0 : Nat) : Int) + 1 = held + 1 by omega] at hfin
      rw [hW6] at hk6 hfin ⊢
      obtain ⟨r0, r1, r2, r3⟩ := four_cells (show W6.heap[kb]? = some (.cells #[.slice (some ⟨g1, 0, none⟩) (k + 1) c1, .slice (some ⟨g2, 0, none⟩) (k + 1) c2, .int .i64 (held + 1), .bool false] 46 (0, 0)) from hk6)
      have hl6 := lt_of_block hk6
      have HF6 := Lib.hid hfin
      have hb1 : ¬ (1000000 : Int) < held + 1 := by omega
      have hb2 : ¬ (4000 : Int) < (k : Int) + 1 := by omega
      clear hW6 hk6 hfin p0 p1 p2 p3 f0 f1 f2 f3 hlk5
      go_loopg [] 0 (fun i wr => i = 0 ∧ wr = W6)
      case atStart => exact ⟨rfl, rfl⟩
      case round =>
        obtain ⟨hi0, rfl⟩ := hrel
        by_cases hk0 : k = 0
        · have hb3 : ¬ (1 : Int) < (k : Int) + 1 := by omega
          go_wp2_with fail
          refine bodyPost_end (v := .tuple #[]) (by simp [results, Tryz.results26, go_sem]) rfl ?_
          exact ⟨⟨_, rfl⟩, HF6.out⟩
        · have hb3 : (1 : Int) < (k : Int) + 1 := by omega
          go_wp2_with fail
          refine bodyPost_end (v := .tuple #[]) (by simp [results, Tryz.results26, go_sem]) rfl ?_
          exact ⟨⟨_, rfl⟩, HF6.out⟩
  · obtain ⟨ga, hga, hgb, hrx⟩ : ∃ ga, a = some ga ∧ base ≤ ga ∧ RowX W2 ga l := by
      rcases (HE.out.fr HF2.out HK.out).2 with h | ⟨g, h1, h2, h3⟩
      · exact absurd h h0l
      · exact ⟨g, h1, h2, h3⟩
    obtain rfl : A = some ⟨ga, 0, none⟩ := by rw [← HA.out, hga]; rfl
    have HRX := Lib.hid hrx
    have HNN := HN.out
    clear h0l hga hrx
    go_region_law (first
      | (refine stepCopy rfl (.const (.slice none 0 0)) (.tmp 19) rfl l ga n n base rfl rfl HNN (by exact HRX.out) (by show base ≤ W2.heap.size; omega) hl ?_; intro v3 w4 hown4 hgr4; obtain ⟨A4, c4, hv4⟩ := hown4.slice; subst hv4; rw [HNN] at hown4; have hgr5 : W2.grownBy w4 none := (grown_drewN W2 1 none).trans hgr4; have hk4 := (hgr5.block kb hlt2 (fun e => nomatch e)).trans HK2.out; obtain ⟨u0, u1, u2, u3⟩ := four_cells hk4; obtain ⟨d0, d1, d2, d3⟩ := four_free hk4; have hlk4 := lt_of_block hk4; have hs4 := hgr5.size; have hw4 := HW2.out.kept hgr5 (by cases vw.ownBlock <;> simp); rw [HNN])
      | (refine stepRow (W := w4.alloc (.cells #[.slice A4 n c4] 28)) base rfl (.tmp 18) (.tmp 21) rfl vw (.slice A4 n c4) k w4.heap.size C rfl rfl (by exact heap_alloc_new w4 _) rfl (by exact World.ownsRow.alloc hw4 _) (by simp; omega) hk10 ?_; intro g2 c2 w3 hown hgr hat; have hk3 := (hgr.block kb (by simp; omega) (fun e => HNW.out kb e.symm rfl)).trans (heap_alloc hk4 _); obtain ⟨q0, q1, q2, q3⟩ := four_cells hk3; obtain ⟨e0, e1, e2, e3⟩ := four_free hk3; have hlk3 := lt_of_block hk3))
    all_goals
      have hX4 : Below W2.heap.size W2 (w4.alloc (.cells #[.slice A4 n c4] 28)) := grown_below (hgr5.trans (World.grownBy_alloc w4 _ none))
      obtain ⟨hk5, hl5, hw5, hg5, hg6, hf5, hb5⟩ := keep_after (X := w4.alloc (.cells #[.slice A4 n c4] 28)) hbk HK2.out HL2.out HW2.out HNW.out HD2.out hg1 hX4 hown hgr hat
      have hct := toks_fr (OwnT.toks hown4) ((Fr28.below (kb := kb) (grown_below (World.grownBy_alloc w4 (.cells #[.slice A4 n c4] 28) none))).trans hf5) hk4
      obtain ⟨W5, hW5⟩ : ∃ W5, w3.setCell ⟨kb, 1, none⟩ (.slice (some ⟨g2, 0, none⟩) (k + 1) c2) = W5 := ⟨_, rfl⟩
      rw [hW5] at hk5 hl5 hw5 hf5 hb5 hct ⊢
      have hfX := (HF2.out.trans (Fr28.below (kb := kb) hX4)).trans hf5
      have hbX := (HB2.out.trans (Below.mono hX4 (by omega))).trans hb5
      have hfin := keep_end hbk HK.out HKE.out HN.out (by omega) h0 h3' HAP.out HFR.out HES.out HCS.out HE.out hk5 (by rw [HEV.out]; exact hl5) hw5 hg5 hg1 hg6 hfX hbX hct
      have HFIN := Lib.hid hfin
      clear q0 q1 q2 q3 e0 e1 e2 e3 u0 u1 u2 u3 d0 d1 d2 d3 hlk3 hk3 hown hgr hat hW5 hl5 hw5 hf5 hb5 hfX hbX hfin hct p0 p1 p2 p3 f0 f1 f2 f3 hX4 hgr4 hgr5 hk4 hlk4 hw4 hs4 hown4
      obtain ⟨p0, p1, p2, p3⟩ := four_cells hk5
      obtain ⟨f0, f1, f2, f3⟩ := four_free hk5
      have hlk5 := lt_of_block hk5
      have HK5 := Lib.hid hk5
      clear hk5
    all_goals
      go_upto_region 3 with fail
      obtain ⟨W6, hW6⟩ : ∃ W6, W5.setCell ⟨kb, 2, none⟩ (.int .i64 (held + (n : Int) + 1)) = W6 := ⟨_, rfl⟩
      have hk6 := heap_set HK5.out 2 (.int .i64 (held + (n : Int) + 1))
      have hfin := HFIN.out
      rw [hW6] at hk6 hfin ⊢
      obtain ⟨r0, r1, r2, r3⟩ := four_cells (show W6.heap[kb]? = some (.cells #[.slice (some ⟨g1, 0, none⟩) (k + 1) c1, .slice (some ⟨g2, 0, none⟩) (k + 1) c2, .int .i64 (held + (n : Int) + 1), .bool false] 46 (0, 0)) from hk6)
      have hl6 := lt_of_block hk6
      have HF6 := Lib.hid hfin
      have hb1 : ¬ (1000000 : Int) < held + (n : Int) + 1 := by omega
      have hb2 : ¬ (4000 : Int) < (k : Int) + 1 := by omega
      clear hW6 hk6 hfin p0 p1 p2 p3 f0 f1 f2 f3 hlk5
      go_loopg [] 0 (fun i wr => i = 0 ∧ wr = W6)
      case atStart => exact ⟨rfl, rfl⟩
      case round =>
        obtain ⟨hi0, rfl⟩ := hrel
        by_cases hk0 : k = 0
        · have hb3 : ¬ (1 : Int) < (k : Int) + 1 := by omega
          go_wp2_with fail
          refine bodyPost_end (v := .tuple #[]) (by simp [results, Tryz.results26, go_sem]) rfl ?_
          exact ⟨⟨_, rfl⟩, HF6.out⟩
        · have hb3 : (1 : Int) < (k : Int) + 1 := by omega
          go_wp2_with fail
          refine bodyPost_end (v := .tuple #[]) (by simp [results, Tryz.results26, go_sem]) rfl ?_
          exact ⟨⟨_, rfl⟩, HF6.out⟩

end Go.Proofs.YtbhdkkkaeabkhaaGreatDoor

namespace Go.Proofs.YtbhdkkkaeabkhaaGreatDoor
open Go.RowKit
namespace Lx
theorem go_why : ∀ (f p i : Nat) (l : Bytes) (y x : Nat), (go f p i l).2 = some (y, x) → y ≠ 0
  | 0, _, _, _, y, x, h => by simp [go] at h
  | f + 1, p, i, l, y, x, h => by
    rw [go] at h
    simp only at h
    split at h
    · cases h
    · rename_i b r hr
      split at h
      · injection h with h; injection h with h1 h2; omega
      · split at h
        · injection h with h; injection h with h1 h2; omega
        · split at h
          · rename_i why x' hcut
            rw [hr] at hcut
            have := cut_why hcut
            injection h with h; injection h with h1 h2
            omega
          · exact go_why f _ _ _ y x h
theorem toks_why {l : Bytes} {ts : List Tok} {y x : Nat} (h : toks l = (ts, some (y, x))) : y ≠ 0 := by
  unfold toks at h
  split at h
  · injection h with _ h; injection h with h; injection h with h1 h2; omega
  · exact go_why _ _ _ _ y x (by rw [h])
end Lx
end Go.Proofs.YtbhdkkkaeabkhaaGreatDoor

namespace Go.Proofs.YtbhdkkkaeabkhaaGreatDoor
open Go.RowKit
namespace Lx
theorem quoted_place (p : Nat) : ∀ (m : Nat) (l acc : Bytes) (k y x : Nat), l.length ≤ m → quoted p l acc k = .bad y x → x ≤ p + k + l.length
  | m, [], acc, k, y, x, _, h => by
    simp only [quoted] at h
    injection h with h1 h2
    simp
    omega
  | 0, c :: l, acc, k, y, x, hm, h => by simp at hm
  | m + 1, c :: l, acc, k, y, x, hm, h => by
    have hm' : l.length ≤ m := by simpa using hm
    by_cases e34 : c = 34
    · subst e34; simp [quoted] at h
    · by_cases e92 : c = 92
      · subst e92
        cases l with
        | nil => simp only [quoted] at h; injection h with h1 h2; simp; omega
        | cons d l =>
          have hm2 : l.length ≤ m := by simp at hm'; omega
          rw [quoted_esc] at h
          simp only [List.length_cons]
          split at h
          · have := quoted_place p m l _ _ y x hm2 h; omega
          · split at h
            · have := quoted_place p m l _ _ y x hm2 h; omega
            · injection h with h1 h2; omega
      · rw [quoted_byte p c l acc k e34 e92] at h
        simp only [List.length_cons]
        split at h
        · injection h with h1 h2; omega
        · have := quoted_place p m l _ _ y x hm' h; omega
theorem cut_place {p y x : Nat} {b : UInt8} {l : Bytes} (h : cut p (b :: l) = .bad y x) : x ≤ p + (b :: l).length := by
  simp only [cut] at h
  split at h
  · simp only [cutName] at h
    split at h
    · rename_i hl
      injection h with h1 h2
      have := takeWhile_len (l := b :: l) within
      omega
    · cases h
  · split at h
    · simp only [cutNumber] at h
      split at h
      · injection h with h1 h2; omega
      · cases h
    · split at h
      · have := quoted_place p _ l _ _ y x (Nat.le_refl _) h
        simp only [List.length_cons]
        omega
      · split at h <;> cases h
theorem go_bounds : ∀ (f p i : Nat) (l : Bytes) (y x : Nat), (go f p i l).2 = some (y, x) → y ≤ 12 ∧ x ≤ p + l.length
  | 0, _, _, _, y, x, h => by simp [go] at h
  | f + 1, p, i, l, y, x, h => by
    obtain ⟨j, hj, hs⟩ := skip_suffix false l
    have hsl : (skip false l).length ≤ l.length := by rw [hs, List.length_drop]; omega
    rw [go] at h
    simp only at h
    split at h
    · cases h
    · rename_i b r hr
      rw [hr] at hsl
      split at h
      · injection h with h; injection h with h1 h2; rw [hr] at h2; omega
      · split at h
        · injection h with h; injection h with h1 h2; rw [hr] at h2; omega
        · split at h
          · rename_i why x' hcut
            rw [hr] at hcut
            have hw := cut_why hcut
            have hp := cut_place hcut
            injection h with h; injection h with h1 h2
            omega
          · rename_i t n hcut
            rw [hr] at hcut
            have hcl := cut_len hcut
            have := go_bounds f _ _ _ y x h
            rw [hr, List.length_drop] at this
            omega
theorem toks_bounds' {l : Bytes} {ts : List Tok} {y x : Nat} (h : toks l = (ts, some (y, x))) : y ≤ 12 ∧ x ≤ l.length := by
  unfold toks at h
  split at h
  · injection h with _ h; injection h with h; injection h with h1 h2; omega
  · have := go_bounds _ 0 0 l y x (by rw [h])
    omega
end Lx

/-- A row that was handed out just now lies in no kept row's place. -/
theorem book_fresh {base kb : Nat} {W W' : World} {E : List Ent} {a : Option Nat} {l : List Lx.Tok} (h : BookW base W kb E) (he : EntIs W.heap.size W' (a, l) l) :
    ∀ (p g : Nat) (e : Ent), E[p]? = some e → e.2 ≠ [] → l ≠ [] → a = some g → e.1 ≠ some g := by
  intro p g e hp hne hl ha hg
  obtain ⟨_, _, vl, vw, held, C, _, _, _, _, _, _, hes, _⟩ := h
  rcases (hes p e hp).2 with h0 | ⟨g', hg', _, hr⟩
  · exact hne h0
  · rcases he.2 with h0 | ⟨g2, hg2, hb, _⟩
    · exact hl h0
    · rw [hg] at hg'
      injection hg' with hg'
      simp only at hg2
      rw [ha] at hg2
      injection hg2 with hg2
      have := hr.lt
      omega
theorem EntIs.mono {base base' : Nat} {W : World} {e : Ent} {us : List Lx.Tok} (h : EntIs base' W e us) (hb : base ≤ base') : EntIs base W e us :=
  ⟨h.1, h.2.imp id fun ⟨g, h1, h2, h3⟩ => ⟨g, h1, by omega, h3⟩⟩
theorem BookW.new {base : Nat} {W : World} (hb : base ≤ W.heap.size) : BookW base (W.alloc (.cells #[.slice none 0 0, .slice none 0 0, .int .i64 0, .bool false] 46)) W.heap.size [] :=
  ⟨hb, fun p q g e e' _ hp => by simp at hp, _, _, 0, [], heap_alloc_new _ _, World.ownsRow_nil _ _ _ _, World.ownsRow_nil _ _ _ _, .inl rfl, by omega, by simp, fun p e hp => by simp at hp, fun p e c hp => by simp at hp⟩

end Go.Proofs.YtbhdkkkaeabkhaaGreatDoor
